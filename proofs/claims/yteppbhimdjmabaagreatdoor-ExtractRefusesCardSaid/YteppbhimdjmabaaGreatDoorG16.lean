/- A part. -/
import Derived.Test.YteppbhimdjmabaaGreatDoorG14
import Derived.Test.YteppbhimdjmabaaGreatDoorG15
open Go.Proofs.Tryz
set_option linter.all false
open Int renaming mul_le_mul_of_nonneg_right->aC,le_of_lt->aF,natAbs_natCast->aH,mul_ne_zero->aJ,gcd->aK,natCast_ediv->aP,mul_one->aS,mul_le_mul_of_nonneg_left->aT,tmod_eq_emod_of_nonneg->aX
open List renaming append_assoc->aN,eq_nil_of_length_eq_zero->aR,exists_cons_of_ne_nil->aW,getElem?_cons_zero->aZ
open Nat renaming le_refl->aL,mul_le_mul_left->aM,pow_pos->aQ,strongRecOn->aU,pow_succ->bC
open Rat renaming divInt->aE,divInt_ofNat->aO
open _root_ renaming Nat->J,Int->Z,Rat->Y,List->bF
open _root_.Go renaming Addr->aV
open _root_.Go.Proofs.YteppbhimdjmabaaGreatDoor renaming FCall->aI,Heap->aY
namespace Go.Proofs.YteppbhimdjmabaaGreatDoor
set_option maxRecDepth 20000
open Go
section
variable {h g:aY} {K:VP} {A B:Option aV} {ac bc:J}
def C1d{P:Program}{t e:TypeId}{z:Value}{bytes:J}(s:SliceT P t e z 1 bytes){u v:Value}(hu:u.cells=#[u])(hv:v.cells=#[v]){K:VP}{h:aY} (x:∀b,h b=none->K (.slice (some ⟨b,0,none⟩) 2 2) (h.put b (.cells #[u,v] e))):wpH P (Instr.buildSlice t 2 #[(0,u),(1,v)]) K h:=by refine Cv s o (cells:=#[u,v]) ?_ x;have a:(H9 z.cells 2).size=2:=by{simp[H9,s.cells]};have:H9 z.cells 2=#[(H9 z.cells 2)[0]'o,(H9 z.cells 2)[1]'o]:=by{grind};rw[this];simp[Instr.fill,hu,hv]
def Cy{B:Z}(hB:0<B){xs:bF Z}(d:Dig B xs){m:J}(hl:xs.length=m+1):val B xs<(xs.getD m 0+1)*B^m/\xs.getD m 0*B^m<=val B xs:=by have a:=I4 B xs m;have b:=Q3 hB (d.take m);have c:=C9 hB (d.take m);grind
def A30{xs:bF Z}{m:J}(hl:xs.length=m+1)(hn:Norm xs):xs.getD m 0≠0:=by intro a;apply hn;grind
def Wx{x y:Z}{an bn:J}(ma:Mg h A an x)(mb:Mg h B bn y)(hy:y≠0)(hl:an<=18000000000000)(hl2:bn<=18000000000000)
 (hK:∀A1 m1 c1 A2 m2 c2 h',h.le h'->m1<=c1->m2<=c2->Mg h' A1 m1 (x/y)->Mg h' A2 m2 (x%y)->K (.tuple #[.slice A1 m1 c1,.slice A2 m2 c2]) h'):aI prog 227 #[.slice A an ac,.slice B bn bc] h K:=by
 have C:=ma.nonneg dc;have ao:=mb.nonneg dc;have az:=mb.len_zero dc;have W:=ma.lt dc;refine B14 _ _ _ _ _ _ ?_;refine Xe ma mb o ⟨_,rfl,B9 (fun h1=>?_) (fun h1=>D4 (fun h2=>?_) (fun h2=>?_))⟩
 ·have D:x<y:=by
   omega
  rw[Int.ediv_eq_zero_of_lt C D,Int.emod_eq_of_lt C D]at hK;obtain⟨xs,rfl,sx,dx,nx,rfl⟩:=ma;refine Fd Qr ?_;intro b X;refine⟨_,_,_,rfl,?_⟩;have c:=Heap.le_put (h:=h) (b:=b) (.cells #[] 164) X;have af:=SlI.mono c sx;refine Bz Qr (Priv.nil _ _ _ _) (ys:=xs.map (Value.int .u32)) (by simp) af (fun v hv=>?_) o o ?_;·obtain⟨a,_,rfl⟩:=List.mem_map.1 hv;rfl
  ·intro A' c' h' g' hg V;have hs:=V.slV;simp only[Nat.zero_add]at V ⊢;exact⟨_,_,_,rfl,hK none 0 0 A' xs.length c' h' (B6 c (B6 hg V.le)) (aL _) V.2.1 Mag.zero ⟨xs,rfl,hs,dx,nx,rfl⟩⟩
 ·obtain⟨ys,rfl,T,Q,ny,rfl⟩:=mb
  obtain⟨d,rfl⟩:∃d,ys=[d]:=by
   cases ys with
   |nil=>grind
   |cons d r=>
    grind
  rw[At]at hy ao hK;have hd:=Q d (by simp);refine T.load rfl o (by simp) ?_;show aI _ _ #[_,U32 d] _ _;refine Og ma ⟨o,hd.2⟩ hl ?_;intro A' m c' h' c hm a0 hM;refine⟨_,_,_,_,rfl,?_⟩;refine T6 Qr rfl ?_;intro b X;refine⟨_,_,_,rfl,?_⟩;have q:=Heap.le_put (h:=h') (b:=b) (.cells #[U32 (x%d)] 164) X
  have hr:0<=x%d/\x%d<4294967296:=by
   have h3:=Int.emod_nonneg x (show d≠0 from o);have h4:=Int.emod_lt_of_pos x (show 0<d from o);grind
  refine Bk (xs:=[x%d]) (SlI.new h' b [x%d] 164 _) (Dig.one hr) (aL _) (by simp) ?_;intro m2 E p;rw[At]at p;exact⟨_,_,_,rfl,hK _ _ _ _ _ _ _ (B6 c q) hm o (hM.mono q) p⟩
 ·have ap:y<=x:=by
   omega
  have a3:bn<=an:=mb.len_le dc (Int.lt_of_le_of_lt ap W);obtain⟨xs,rfl,sx,dx,nx,rfl⟩:=ma;obtain⟨ys,rfl,T,Q,ny,rfl⟩:=mb;obtain⟨mm,hmm⟩:∃mm,ys.length=mm+2:=⟨ys.length-2,o⟩;have gt:=Cu Q (mm+1);have a1:=A30 (m:=mm+1) hmm ny;obtain⟨ad,L⟩:=Cy (B:=b32) dc Q (m:=mm+1) hmm;refine⟨fun l h'=>∃s:J,l=[U s]/\h'=h/\s<32/\ys.getD (mm+1) 0*2^s<4294967296,fun l _=>32-(iAt l 0).toNat,⟨0,rfl,rfl,o,o⟩,?_⟩;rintro si aj ⟨s,ay,rfl,hs,al⟩;obtain rfl:si=(s:Z):=gz0;have e1:C4 ((ys.length:Z)-1)=((mm+1:J):Z):=by rw[C0 o o];omega
  rw[e1];refine T.load rfl o o ?_;refine B9 (fun e=>absurd e o) (fun _=>?_);have f:0<(2:Z)^s:=Int.pow_pos dc
  have ax:2^s<=ys.getD (mm+1) 0*2^s:=by
   have:=aC (show 1<=ys.getD (mm+1) 0 from o) (aF f);omega
  have e2:J5 (ys.getD (((mm+1:J):Z)).toNat 0*2^(min ((s:Z)).toNat 32))=ys.getD (mm+1) 0*2^s:=by
   rw[Int.toNat_natCast,Int.toNat_natCast,Nat.min_eq_left o,T5 o al]
  refine B9 (fun h3=>?_) (fun h3=>?_)
  ·have G:s+1<32:=by
    grind
   have e3:C7 ((s:Z)+1)=((s+1:J):Z):=by rw[C5 o o];omega
   rw[e3];refine⟨⟨s+1,rfl,rfl,G,?_⟩,by simp only[iAt,aZ];omega⟩;rw[Int.pow_succ,<- Int.mul_assoc];omega
  ·have ag:val b32 ys*2^s<b32^(mm+2):=by
    have am:=Oc (Nat.le_of_lt hs)
    have t1:ys.getD (mm+1) 0+1<=2^(32-s):=by
     by_cases u:ys.getD (mm+1) 0+1<=2^(32-s);·exact u
     ·have:=aC (show(2:Z)^(32-s)<=ys.getD (mm+1) 0 from o) (aF f);grind
    have t2:val b32 ys*2^s<(ys.getD (mm+1) 0+1)*b32^(mm+1)*2^s:=Int.mul_lt_mul_of_pos_right ad f
    have t4:(ys.getD (mm+1) 0+1)*2^s*b32^(mm+1)<=4294967296*b32^(mm+1):=by
     apply aC _ (aF (E9 dc _));rw[<- am,Int.mul_comm (2^s)];simp_all
    rw[Int.pow_succ b32 (mm+1),Int.mul_comm (b32^(mm+1))];grind
   have a2:2147483648*b32^(mm+1)<=val b32 ys*2^s:=by
    have t1:ys.getD (mm+1) 0*b32^(mm+1)*2^s<=val b32 ys*2^s:=aC L (aF f);have t2:2147483648*b32^(mm+1)<=ys.getD (mm+1) 0*2^s*b32^(mm+1):=aC o (aF (E9 dc _));grind
   refine Ln T Q hs o ?_;intro bv zv ai O ak aw;refine⟨_,_,_,rfl,?_⟩;rw[<- O];refine Bk (Ck _ _ _ _ _) ak (aL _) o ?_;intro n hn g;refine⟨_,_,_,rfl,?_⟩;rw[aw]at g
   have av:n=mm+2:=by
    have l1:=g.len_le dc ag;have l2:=g.lt dc;by_cases u:n=mm+2;·exact u
    ·have:=D7 (B:=b32) dc (show n<=mm+1 from o);have:=E9 (B:=b32) dc (mm+1);omega
   subst av;obtain⟨S,M,sv,dv,nv,H⟩:=g
   have ae:4294967296<=2*S.getD (mm+1) 0:=by
    obtain⟨q1,q2⟩:=Cy (B:=b32) dc dv (m:=mm+1) M.symm
    have:2147483648<S.getD (mm+1) 0+1:=by
     by_cases u:2147483648<S.getD (mm+1) 0+1;·exact u
     ·have:=aC (show S.getD (mm+1) 0+1<=2147483648 from o) (aF (E9 (B:=b32) dc (mm+1)));omega
    omega
   have t:=Eb (k:=.u32) (e:=164) ai zv;refine Ln (SlI.mono t sx) dx hs o ?_;intro bu z aq ar R ah;refine⟨_,_,_,rfl,?_⟩;obtain⟨nq,hnq⟩:∃nq,xs.length+1=nq+(mm+2):=⟨xs.length+1-(mm+2),o⟩
   have e4:C4 (C4 (C4 (((xs.length+1:J):Z)-((mm+2:J):Z))-1)+1)=(nq:Z):=by
    rw[C0 (n:=((xs.length+1:J):Z)-((mm+2:J):Z)) o o,C0 (n:=_-(1:Z)) o o,C0 o o];omega
   rw[e4];refine N8 Qr o o o ?_;intro bq j;refine⟨_,_,_,rfl,?_⟩
   have w:bu≠bq:=by
    rintro rfl;unfold blk at j;rw[C3]at j;cases j
   have F:blk .u32 164 aj bv zv bq=none:=by
    have:=j;unfold blk at this ⊢;rwa [C1 _ _ w.symm]at this
   refine B12 (us0:=z) (N:=xs.length+1) aq F w sv dv M.symm ae hs H rfl R ar ah hnq o o ?_ ?_
   ·have s1:=G9 b32 z (i:=nq) o;have s2:=C9 dc (R.take nq)
    have s3:val b32 z<b32^xs.length*2^s:=by
     simp_all
    have s4:b32^(mm+1)<=val b32 ys:=by
     have:=aC (show 1<=ys.getD (mm+1) 0 from o) (aF (E9 (B:=b32) dc (mm+1)));omega
    have s5:b32^nq*(b32^(mm+1)*2^s)<=b32^nq*(val b32 ys*2^s):=aT (aC s4 (aF f)) (aF (E9 dc nq))
    have s6:b32^nq*(b32^(mm+1)*2^s)=b32^xs.length*2^s:=by
     grind
    by_cases u:val b32 (z.drop nq)<val b32 ys*2^s;·exact u
    ·have:=aT (show val b32 ys*2^s<=val b32 (z.drop nq)from o) (aF (E9 (B:=b32) dc nq));omega
   ·intro A1 m1 c1 A2 m2 c2 h' c au E aa p;exact hK _ _ _ _ _ _ _ (B6 t c) au E aa p
end
def SlI.unique{k:IntKind}{h:aY}{A:Option aV}{xs ys:bF Z}(s:SlI k h A xs)(t:SlI k h A ys)(hl:xs.length=ys.length):xs=ys:=by apply List.ext_getElem hl;intro i f e;obtain⟨a,d,j⟩:=SlV.at s (i:=i) gz0;obtain⟨b,g,c⟩:=SlV.at t (i:=i) gz0;grind
def A93(h:aY)(A:Option aV)(len:J):bF Z:=(List.range len).map fun i=>
 match A with
 |some a=>(match h.cell? (a.add i)with|some (.int _ n)=>n|_=>0)
 |none=>0
def B3b(B:Z)(h:aY)(A:Option aV)(len:J):J:=(val B (A93 h A len)).toNat
def B4t{k:IntKind}{h:aY}{A:Option aV}{xs:bF Z}(s:SlI k h A xs):A93 h A xs.length=xs:=by apply List.ext_getElem;{simp[A93]};·intro i d e;obtain⟨a,b,c⟩:=SlV.at s (i:=i) gz0;subst b;simp[A93,c]
def Cd{k:IntKind}{B:Z}{h:aY}{A:Option aV}{len:J}{n:Z}(m:Mag k B h A len n):B3b B h A len=n.toNat:=by obtain⟨xs,rfl,s,_,_,rfl⟩:=m;unfold B3b;rw[B4t s]
def ZB(m:J)(z:Z):Prop:=z.natAbs<2^m
def ZB.mono{m n:J}{z:Z}(h:ZB m z)(hm:m<=n):ZB n z:=Nat.lt_of_lt_of_le h (Nat.pow_le_pow_right dc hm)
def ZB.neg{m:J}{z:Z}(h:ZB m z):ZB m (-z):=by unfold ZB at *;omega
def ZB.add{m:J}{x y:Z}(hx:ZB m x)(hy:ZB m y):ZB (m+1) (x+y):=by unfold ZB at *;omega
def ZB.sub{m:J}{x y:Z}(hx:ZB m x)(hy:ZB m y):ZB (m+1) (x-y):=by exact hx.add hy.neg
def ZB.mul{m n:J}{x y:Z}(hx:ZB m x)(hy:ZB n y):ZB (m+n) (x*y):=by unfold ZB at *;rw[Int.natAbs_mul,Nat.pow_add];have a:x.natAbs*y.natAbs<=x.natAbs*2^n:=aM _ (Nat.le_of_lt hy);have b:x.natAbs*2^n<2^m*2^n:=Nat.mul_lt_mul_of_pos_right hx (aQ dc);omega
def ZB.le{m:J}{x y:Z}(hx:ZB m x)(h:y.natAbs<=x.natAbs):ZB m y:=Nat.lt_of_le_of_lt h hx
def ZB.one{m:J}(h:1<=m):ZB m 1:=ZB.mono (m:=1) (by unfold ZB;decide) h
def ZB.zero{m:J}:ZB m 0:=aQ dc
def B3i{k:IntKind}{j:J}(hj:0<j){h:aY}{A:Option aV}{n m:J}{x:Z}(M:Mag k ((2:Z)^j) h A n x)(hx:x<2^m):n<=m/j+1:=by refine M.len_le ?_ ?_;{have:=D7 (B:=2) dc hj;omega};·have e:((2:Z)^j)^(m/j+1)=2^(j*(m/j+1)):=by{rw[Int.pow_mul]};have:m<=j*(m/j+1):=by{have a:=Nat.div_add_mod m j;have b:=Nat.mod_lt m hj;grind};have:=D7 (B:=2) dc this;omega
structure NI (h:aY) (s:Bool) (A:Option aV) (n c:J) (z:Z):Prop where
 mag:Mg h A n (z.natAbs:Z)
 sg:s=decide (z<0)
 cap:n<=c
section
variable {h h':aY} {K:VP} {A B:Option aV} {n c n' c':J} {s s':Bool} {x y z:Z} {m:J}
def NI.mono(hl:h.le h')(i:NI h s A n c z):NI h' s A n c z:=⟨i.mag.mono hl,i.sg,i.cap⟩
def NI.len(i:NI h s A n c z)(hz:ZB m z)(hm:m<=575000000000000):n<=18000000000000:=by have:=B3i (j:=32) dc i.mag (m:=m) (by unfold ZB at hz;grind);omega
def NI.zero_iff(i:NI h s A n c z):n=0↔z=0:=by have:=i.mag.len_zero dc;omega
def NI.nil:NI h false A 0 0 0:=⟨Mag.zero,rfl,aL _⟩
def R6{neg:Bool}{x:Z}(M:Mg h A n x)(hc:n<=c)(hK:∀s,NI h s A n c (if neg then -x else x)->K (.agg #[.bool s,.slice A n c]) h):aI prog 86 #[.bool neg,.slice A n c] h K:=by have a:=M.nonneg dc;have b:=M.len_zero dc;refine(fnk func86 (own:=[4])) ?_;refine Br.of (fun e=>?_) (fun e=>?_);{refine hK _ ⟨?_,?_,hc⟩;{grind};grind};·refine hK _ ⟨?_,?_,hc⟩;{grind};grind
def Ta(hz: -9223372036854775808<=z/\z<=9223372036854775807)(hK:∀s A n c h',h.le h'->NI h' s A n c z->K (.agg #[.bool s,.slice A n c]) h'):aI prog 36 #[I z] h K:=by refine(fnk func36 (cs:=[(4,[3],[],[U 0])]) (own:=[2])) ?_;refine⟨fun l h'=>l=[U z.natAbs]/\h'=h,B9 (fun g=>⟨?_,rfl⟩) (fun g=>⟨?_,rfl⟩),?_⟩;{have:C7 (0-C7 z)=z.natAbs:=by{rw[F8,F8];omega};rw[this]};{have:C7 z=z.natAbs:=by{rw[F8];omega};rw[this]};·rintro u e ⟨hl,rfl⟩;obtain rfl:u=(z.natAbs:Z):=gz0;rw[Cl,Xx,T5 (n:=(z.natAbs:Z)/4294967296) o o];refine C1d Qr rfl rfl ?_;intro b j;refine⟨_,_,_,rfl,?_⟩;have a:Dig b32 [(z.natAbs:Z)%4294967296,(z.natAbs:Z)/4294967296]:=by{intro d a;grind};refine Bk (xs:=[(z.natAbs:Z)%4294967296,(z.natAbs:Z)/4294967296]) (SlI.new e b _ 164 _) a (aL _) (by simp) ?_;intro m k f;have p:val b32 [(z.natAbs:Z)%4294967296,(z.natAbs:Z)/4294967296]=z.natAbs:=by{simp only[val];grind};refine⟨_,_,_,rfl,?_⟩;refine R6 f o ?_;intro s i;refine⟨_,_,_,_,rfl,hK _ _ _ _ _ (Heap.le_put _ j) ?_⟩;grind
def A3c(i:NI h s A n c z)(hK:K (I z.sign) h):aI prog 105 #[.agg #[.bool s,.slice A n c]] h K:=by have a:=i.zero_iff;have hs:=i.sg;refine(fnk func105 (own:=[1])) ?_;refine Br.of (fun e=>?_) (fun e=>?_);{grind};·refine D4 (fun e=>?_) (fun e=>?_);{grind};grind
def A1i(i:NI h s A n c z)(hK:∀s,NI h s A n c (-z)->K (.agg #[.bool s,.slice A n c]) h):aI prog 158 #[.agg #[.bool s,.slice A n c]] h K:=by refine(fnk func158 (own:=[1,2])) ?_;refine R6 i.mag i.cap ?_;intro b a;refine⟨_,_,_,_,rfl,hK _ ?_⟩;have:(if(!s)=true then -(z.natAbs:Z)else(z.natAbs:Z))= -z:=by{rw[i.sg];grind};grind
def A96(ia:NI h s A n c x)(ib:NI h s' B n' c' y)(hx:ZB m x)(hy:ZB m y)(hm:m<=575000000000000)(hK:∀s A n c h',h.le h'->NI h' s A n c (x+y)->K (.agg #[.bool s,.slice A n c]) h'):aI prog 81 #[.agg #[.bool s,.slice A n c],.agg #[.bool s',.slice B n' c']] h K:=by have i:=ia.len hx hm;have j:=ib.len hy hm;refine(fnk func81 (own:=[2,3,4])) ?_;have hs:=ia.sg;have p:=ib.sg;refine Br.of (fun e=>?_) (fun e=>?_);{refine Xm ia.mag ib.mag i j ?_;intro A' l c1 g a b f;refine⟨_,_,_,rfl,a,?_⟩;refine R6 f b ?_;intro k i1;refine⟨_,_,_,_,rfl,B8 _,hK _ _ _ _ _ a ?_⟩;grind};·refine Xe ia.mag ib.mag o ⟨_,rfl,B9 (fun g=>?_) (fun g=>?_)⟩;{have d:(y.natAbs:Z)<=x.natAbs:=by{omega};refine Uu ia.mag ib.mag d i ?_;intro A' l c1 g a b f;refine⟨_,_,_,rfl,a,?_⟩;refine R6 f b ?_;intro k i1;refine⟨_,_,_,_,rfl,B8 _,hK _ _ _ _ _ a ?_⟩;grind};·have d:(x.natAbs:Z)<=y.natAbs:=by{omega};refine Uu ib.mag ia.mag d j ?_;intro A' l c1 g a b f;refine⟨_,_,_,rfl,a,?_⟩;refine R6 f b ?_;intro k i1;refine⟨_,_,_,_,rfl,B8 _,hK _ _ _ _ _ a ?_⟩;grind
def A3b(x y:Z)(p:J)(hs:s=decide (x<0))(hs':s'=decide (y<0)):(if(!(s==s'))=true then -(p:Z)else(p:Z))=x.sign*y.sign*p\/x=0\/y=0:=by grind
def A9k(x y:Z):x.tdiv y=x.sign*y.sign*((x.natAbs/y.natAbs:J):Z):=by have key:∀a b:J,(a:Z).tdiv b=(a:Z).sign*(b:Z).sign*((a/b:J):Z):=by{intro a b;by_cases c:a=0;{simp_all};grind};obtain⟨a,rfl|rfl⟩:=Int.eq_nat_or_neg x<;>obtain⟨b,rfl|rfl⟩:=Int.eq_nat_or_neg y<;>simp only[Int.neg_tdiv,Int.tdiv_neg,Int.sign_neg,Int.natAbs_neg,aH,key]<;>grind
def Ej{m':J}(ia:NI h s A n c x)(ib:NI h s' B n' c' y)(hx:ZB m x)(hy:ZB m' y)(hm:m<=575000000000000)(hm':m'<=575000000000000)(hK:∀s A n c h',h.le h'->NI h' s A n c (x*y)->K (.agg #[.bool s,.slice A n c]) h'):aI prog 83 #[.agg #[.bool s,.slice A n c],.agg #[.bool s',.slice B n' c']] h K:=by refine(fnk func83 (own:=[2,3,4])) ?_;refine Vy ia.mag ib.mag (ia.len hx hm) (ib.len hy hm') ?_;intro A' i c1 f a b d;refine⟨_,_,_,rfl,a,?_⟩;refine R6 d b ?_;intro g i1;refine⟨_,_,_,_,rfl,B8 _,hK _ _ _ _ _ a ?_⟩;have:(if(!(s==s'))=true then -((x.natAbs:Z)*y.natAbs)else(x.natAbs:Z)*y.natAbs)=x*y:=by{rcases A3b x y (x.natAbs*y.natAbs) ia.sg ib.sg with e|e|e;{grind};{grind};grind};grind
def Vj(ia:NI h s A n c x)(ib:NI h s' B n' c' y)(hy0:y≠0)(hx:ZB m x)(hy:ZB m y)(hm:m<=575000000000000)(hK:∀s A n c s' B n' c' h',h.le h'->NI h' s A n c (x.tdiv y)->NI h' s' B n' c' (x.tmod y)->K (.tuple #[.agg #[.bool s,.slice A n c],.agg #[.bool s',.slice B n' c']]) h'):aI prog 161 #[.agg #[.bool s,.slice A n c],.agg #[.bool s',.slice B n' c']] h K:=by refine(fnk func161 (os:=[(2,[0,1,2,3,4,5,7,8,9,6,10,11,12])]) (own:=[2,3,4,5])) ?_;refine Wx ia.mag ib.mag o (ia.len hx hm) (ib.len hy hm) ?_;intro A1 t c1 A2 i c2 l a d b M1 M2;refine⟨_,_,_,_,_,_,rfl,?_⟩;refine R6 M1 d ?_;intro r i1;refine⟨_,_,_,_,rfl,B8 _,?_⟩;refine R6 M2 b ?_;intro g p;refine⟨_,_,_,_,rfl,B8 _,hK _ _ _ _ _ _ _ _ _ a ?_ ?_⟩;{have:(if(!(s==s'))=true then -((x.natAbs:Z)/y.natAbs)else(x.natAbs:Z)/y.natAbs)=x.tdiv y:=by{rcases A3b x y (x.natAbs/y.natAbs) ia.sg ib.sg with e|e|e;{rw[aP]at e;rw[e,A9k,aP]};{simp_all};omega};grind};·have:(if s=true then -((x.natAbs:Z)%y.natAbs)else(x.natAbs:Z)%y.natAbs)=x.tmod y:=by{rw[ia.sg];by_cases q:x<0;{obtain⟨k,rfl⟩:∃k:J,x= -(k:Z):=⟨x.natAbs,o⟩;rw[Int.neg_tmod,Int.natAbs_neg,aH];congr 1;rw[<- aX o];by_cases f:y<0;{obtain⟨j,rfl⟩:∃j:J,y= -(j:Z):=⟨y.natAbs,o⟩;simp_all};grind};·rw[iN gz0];rw[Int.natAbs_of_nonneg o,<- aX o];by_cases f:y<0;{obtain⟨j,rfl⟩:∃j:J,y= -(j:Z):=⟨y.natAbs,o⟩;simp_all};grind};grind
end
def U5(n:J):J:=if n=0 then 0 else Nat.log2 n+1
def A5c:U5 0=0:=rfl
def B4x{n:J}(h:n≠0):U5 n=U5 (n/2)+1:=by unfold U5;rw[iN h];by_cases a:n/2=0;{have:n=1:=o;subst this;rfl};·rw[iN a,Nat.log2_def n,iP o]
def Gf{n:J}(h:n≠0):2^(U5 n-1)<=n/\n<2^U5 n:=by unfold U5;rw[iN h,Nat.add_sub_cancel];exact⟨Nat.log2_self_le h,Nat.lt_log2_self⟩
def A7j{n k:J}(h1:2^k<=n)(h2:n<2^(k+1)):U5 n=k+1:=by have c:n≠0:=o;unfold U5;rw[iN c];have a:=(Nat.le_log2 c).2 h1;have b:=(Nat.log2_lt c).2 h2;omega
def A00{l t j:J}(hl:l<2^j)(ht:t≠0):U5 (l+2^j*t)=j+U5 t:=by obtain⟨a,b⟩:=Gf ht;have c:U5 t=U5 t-1+1:=gz0;rw[c,<- Nat.add_assoc];apply A7j;{rw[Nat.pow_add];have:=aM (2^j) a;omega};·have:=aM (2^j) (show t+1<=2^U5 t from o);grind
def Js{n k:J}(h:n<2^k):U5 n<=k:=by by_cases a:n=0;{subst a;rw[A5c];omega};·unfold U5;rw[iN a];have:=(Nat.log2_lt a).2 h;omega
def A94{n:J}:U5 n=1↔n=1:=by constructor;{intro h;by_cases a:n=0;{subst a;cases h};·have:=Gf a;grind};·rintro rfl;rfl
def A7k{n:J}:1<U5 n↔1<n:=by by_cases b:n=0;{subst b;rfl};by_cases a:n=1;{subst a;decide};·have c:U5 n≠0:=by{unfold U5;grind};have d:U5 n≠1:=fun e=>a (A94.1 e);omega
section
variable {h h':aY} {K:VP} {A B:Option aV} {n c n' c':J} {s s':Bool} {x y z:Z} {m:J}
def B7c(ia:NI h s A n c x)(ib:NI h s' B n' c' y)(hx:ZB m x)(hy:ZB m y)(hm:m<=575000000000000)(hK:∀s A n c h',h.le h'->NI h' s A n c (aK x y)->K (.agg #[.bool s,.slice A n c]) h'):aI prog 159 #[.agg #[.bool s,.slice A n c],.agg #[.bool s',.slice B n' c']] h K:=by
 refine(fnk func159 [(2,[5,6],[],[.slice none 0 0,.slice none 0 0])] (own:=[2,3,4])) ?_;refine⟨fun l b=>∃(A B:Option aV) (n c n' c' X yq9:J),l=[.slice A n c,.slice B n' c']/\h.le b/\Mg b A n X/\Mg b B n' yq9/\n<=c/\n'<=c'/\Nat.gcd X yq9=aK x y/\n<=18000000000000/\n'<=18000000000000,fun l b=>match l with|[_,.slice A n _]=>B3b b32 b A n|_=>0,⟨_,_,_,_,_,_,_,_,rfl,B8 h,ia.mag,ib.mag,ia.cap,ib.cap,rfl,ia.len hx hm,ib.len hy hm⟩,?_⟩
 rintro A1 E c1 B1 p c2 b ⟨A1',B1',i,e,d,f,X,yq9,hl,g,M1,M2,r,D,u,w,q⟩;obtain⟨⟨rfl,rfl,rfl⟩,rfl,rfl,rfl⟩:(A1=A1'/\E=i/\c1=e)/\B1=B1'/\p=d/\c2=f:=gz0;have H:=M2.len_zero dc;refine B9 (fun z=>?_) (fun z=>?_)
 ·have k:yq9≠0:=o;refine Wx M1 M2 o w q ?_;intro A3 F c3 A4 L c4 h' a G C M3 M4;have t:=Nat.mod_lt X (Nat.pos_of_ne_zero k);refine⟨_,_,_,_,_,_,rfl,⟨_,_,_,_,_,_,yq9,X%yq9,rfl,B6 g a,M2.mono a,M4,D,C,?_,q,?_⟩,?_⟩;·rw[<- u,Nat.gcd_comm X yq9,Nat.gcd_rec yq9 X,Nat.gcd_comm]
  ·have:=M4.len_le dc (j:=p) (Int.lt_trans (show((X%yq9:J):Z)<(yq9:Z)from o) (M2.lt dc));omega
  ·simp only[Cd M4,Cd M2];omega
 ·have k:yq9=0:=o;refine R6 M1 r ?_;grind
def A5d(i:NI h s A n c z)(hz:ZB m z)(hm:m<=575000000000000)(hK:K (I (U5 z.natAbs)) h):aI prog 160 #[.agg #[.bool s,.slice A n c]] h K:=by have hl:=i.len hz hm;have q:=i.zero_iff;refine(fnk func160 [(5,[3,4],[],[I 0,U32 0])] (own:=[1])) ?_;refine D4 (fun e=>?_) (fun e=>?_);{have:z=0:=q.1 o;subst this;exact hK};·obtain⟨xs,b,D,g,L,T⟩:=i.mag;obtain⟨k,hk⟩:∃k,xs.length=k+1:=⟨xs.length-1,o⟩;have F:C4 ((n:Z)-1)=(k:Z):=by{rw[C0 o o];omega};have B:C4 (32*(k:Z))=((32*k:J):Z):=by{rw[C0 o o];omega};rw[F,B];refine D.load b o o ?_;have R:=Cu g k;have N:=A30 hk L;have r:32*k+U5 (xs.getD k 0).toNat=U5 z.natAbs:=by{have O:=I4 b32 xs k;have C:=Q3 dc (g.take k);have M:=C9 dc (g.take k);rw[List.length_take,Nat.min_eq_left o]at C;have S:b32^k=((2^(32*k):J):Z):=by{rw[show b32=(2:Z)^32 from dc,<- Int.pow_mul];simp};have f:z.natAbs=(val b32 (xs.take k)).toNat+2^(32*k)*(xs.getD k 0).toNat:=by{grind};rw[f,A00 o o]};refine⟨fun l j=>∃(t k:J),l=[I k,U32 t]/\j=h/\k+U5 t=U5 z.natAbs/\t<4294967296,fun l _=>(iAt l 1).toNat,⟨(xs.getD k 0).toNat,32*k,?_,rfl,r,o⟩,?_⟩;{grind};·rintro E p j ⟨t,a,H,rfl,d,u⟩;obtain⟨rfl,rfl⟩:E=(a:Z)/\p=(t:Z):=gz0;have w:U5 z.natAbs<=m:=Js hz;refine B9 (fun y=>?_) (fun y=>?_);{have f:Int.fdiv (t:Z) (2^(min ((1:Z)).toNat 32))=((t/2:J):Z):=by{grind};have Q:=B4x (n:=t) o;have G:C4 ((a:Z)+1)=((a+1:J):Z):=by{rw[C0 o o];omega};rw[f,G];exact⟨⟨t/2,a+1,rfl,rfl,o,o⟩,by simp only[iAt,aZ,List.getElem?_cons_succ];omega⟩};·have:t=0:=o;subst this;rw[A5c,Nat.add_zero]at d;grind
end
structure QV where
 s:Bool
 A:Option aV
 n:J
 c:J
 s2:Bool
 A2:Option aV
 n2:J
 c2:J
abbrev QV.v(w:QV):Value:=.agg #[.bool w.s,.slice w.A w.n w.c,.bool w.s2,.slice w.A2 w.n2 w.c2]
structure NQ (h:aY) (w:QV) (q:Y):Prop where
 num:NI h w.s w.A w.n w.c q.num
 den:NI h w.s2 w.A2 w.n2 w.c2 (if q.den=1 then 0 else (q.den:Z))
structure Sz (m:J) (q:Y):Prop where
 num:ZB m q.num
 den:ZB m q.den
def Sz.mono{m n:J}{q:Y}(h:Sz m q)(hm:m<=n):Sz n q:=⟨h.num.mono hm,h.den.mono hm⟩
def Sz.neg{m:J}{q:Y}(h:Sz m q):Sz m (-q):=⟨by exact h.num.neg,by exact h.den⟩
def Ps{a b:Z}(hb:b≠0):(aE a b).num.natAbs<=a.natAbs/\(aE a b).den<=b.natAbs:=by rw[Rat.num_divInt,Rat.den_divInt,iN hb];constructor;{have c:(aK b a:Z)∣b.sign*a:=Int.dvd_mul_of_dvd_right (Int.gcd_dvd_right b a);rw[Int.natAbs_ediv_of_dvd c,Int.natAbs_mul,aH];have:b.sign.natAbs=1:=by{grind};rw[this,Nat.one_mul];exact Nat.div_le_self _ _};·exact Nat.div_le_self _ _
def N4{m:J}{a b:Z}(hb:b≠0)(h1:ZB m a)(h2:ZB m b):Sz m (aE a b):=by have:=Ps (a:=a) hb;exact⟨h1.le this.1,h2.le o⟩
def Gi(p q:Y):p+q=aE (p.num*q.den+q.num*p.den) (p.den*q.den):=by rw[Rat.add_def',<- Int.natCast_mul,aO]
def Kq(p q:Y):p*q=aE (p.num*q.num) (p.den*q.den):=by rw[Rat.mul_def',<- Int.natCast_mul,aO]
def Kv(z:Z):aE z 1=(z:Y):=by show aE z ((1:J):Z)=_;rw[aO];apply Rat.ext;{rw[Rat.num_mkRat];simp};·rw[Rat.den_mkRat];simp
def den_ne(q:Y):(q.den:Z)≠0:=by have:=q.den_nz;omega
def B0q(p q:Y):p/q=aE (p.num*q.den) (p.den*q.num):=by rw[Rat.div_def,<- Rat.num_divInt_den p,<- Rat.num_divInt_den q,Rat.inv_divInt,Rat.divInt_mul_divInt];simp_all
def Sz.add{m n:J}{p q:Y}(hp:Sz m p)(hq:Sz n q):Sz (m+n+1) (p+q):=by rw[Gi];refine N4 (aJ (den_ne p) (den_ne q)) ?_ ((hp.den.mul hq.den).mono o);exact(hp.num.mul hq.den).add ((hq.num.mul hp.den).mono o)
def Sz.sub{m n:J}{p q:Y}(hp:Sz m p)(hq:Sz n q):Sz (m+n+1) (p-q):=by rw[Rat.sub_eq_add_neg];exact hp.add hq.neg
def Sz.mul{m n:J}{p q:Y}(hp:Sz m p)(hq:Sz n q):Sz (m+n) (p*q):=by rw[Kq];exact N4 (aJ (den_ne p) (den_ne q)) (hp.num.mul hq.num) (hp.den.mul hq.den)
def Sz.zero{m:J}(hm:1<=m):Sz m 0:=⟨ZB.zero,ZB.one hm⟩
def Sz.inv{m:J}{q:Y}(h:Sz m q)(hm:1<=m):Sz m q⁻¹:=by constructor;{rw[Rat.num_inv];refine h.den.le ?_;grind};·rw[Rat.den_inv];split;{exact ZB.one hm};·have:=h.num;assumption
def Sz.div{m n:J}{p q:Y}(hp:Sz m p)(hq:Sz n q)(hn:1<=n):Sz (m+n) (p/q):=by exact hp.mul (hq.inv hn)
def Sz.int{m:J}{z:Z}(h:ZB m z)(hm:1<=m):Sz m (z:Y):=⟨by assumption,by simpa using ZB.one hm⟩
section
variable {h h':aY} {K:VP} {A B:Option aV} {n c n' c':J} {s s':Bool} {x y z:Z} {m:J} {p q:Y} {a b w:QV}
def NQ.mono(hl:h.le h')(i:NQ h w q):NQ h' w q:=⟨i.num.mono hl,i.den.mono hl⟩
def NQ.whole(i:NI h s A n c z){B:Option aV}:NQ h ⟨s,A,n,c,false,B,0,0⟩ (z:Y):=⟨by assumption,by simpa using NI.nil⟩
def NQ.den_zero(i:NQ h w q):w.n2=0↔q.den=1:=by rw[i.den.zero_iff];have:=q.den_nz;omega
def NQ.zero:NQ h ⟨false,none,0,0,false,none,0,0⟩ 0:=⟨NI.nil,NI.nil⟩
def By(i:NQ h w q)(hK:∀s A n c h',h.le h'->NI h' s A n c q.den->K (.agg #[.bool s,.slice A n c]) h'):aI prog 84 #[w.v] h K:=by refine(fnk func84 (own:=[1,2])) ?_;have b:=i.den_zero;refine D4 (fun e=>?_) (fun e=>?_);{refine Ta dc ?_;grind};·have a:=i.den;rw[iN (fun d=>e o)]at a;exact hK _ _ _ _ _ (B8 h) a
def Pn(ix:NI h s A n c x)(iy:NI h s' B n' c' y)(hy0:y≠0)(hx:ZB m x)(hy:ZB m y)(hm:m<=575000000000000)(hK:∀w h',h.le h'->NQ h' w (aE x y)->K w.v h'):aI prog 82 #[.agg #[.bool s,.slice A n c],.agg #[.bool s',.slice B n' c']] h K:=by refine(fnk func82 (cs:=[(3,[],[(2,2),(3,2)],[.bool false,.slice none 0 0,.bool false,.slice none 0 0]),(7,[],[(2,2),(3,2)],[.bool false,.slice none 0 0,.bool false,.slice none 0 0]),(9,[],[(3,2)],[.bool false,.slice none 0 0])]) (os:=[(2,[0,2,1,3,4,5])]) (own:=[2,3,4,5])) ?_;refine⟨fun l k=>∃s A n c s' B n' c' f d,l=[.bool s,.slice A n c,.bool s',.slice B n' c']/\h.le k/\NI k s A n c f/\NI k s' B n' c' d/\0<d/\aE f d=aE x y/\ZB m f/\ZB m d,Br.of (fun e=>?_) (fun e=>?_),?_⟩;{have aj:y<0:=by{have:=iy.sg;grind};refine A1i ix ?_;intro s1 i1;refine⟨_,_,_,_,rfl,B8 h,?_⟩;refine A1i iy ?_;intro s2 z;exact⟨_,_,_,_,rfl,B8 h,_,_,_,_,_,_,_,_,-x,-y,rfl,B8 h,i1,z,o,Rat.neg_divInt_neg x y,hx.neg,hy.neg⟩};{have i:0<y:=by{have:=iy.sg;grind};exact⟨_,_,_,_,_,_,_,_,x,y,rfl,B8 h,ix,iy,i,rfl,hx,hy⟩};rintro s1 A1 n1 c1 s2 A2 n2 c2 am ⟨H,A1',af,O,Q,A2',M,V,f,d,hl,D,i1,z,i,hq,u,p⟩;obtain⟨rfl,⟨rfl,rfl,rfl⟩,rfl,rfl,rfl,rfl⟩:s1=H/\(A1=A1'/\n1=af/\c1=O)/\s2=Q/\A2=A2'/\n2=M/\c2=V:=gz0;refine B7c i1 z u p o ?_;intro s3 A3 n3 c3 h3 t i3;refine⟨_,_,_,_,rfl,?_⟩;rw[<- hq]at hK;generalize hqq:aE f d=q at *;have g:q.num=f/(aK f d:Z):=by{rw[<- hqq,Rat.num_divInt,Int.sign_eq_one_of_pos i,Int.one_mul,Int.gcd_comm]};have j:(q.den:Z)=d/(aK f d:Z):=by{rw[<- hqq,Rat.den_divInt,iN o,Int.gcd_comm,aP,Int.natAbs_of_nonneg o]};have al:0<aK f d:=Int.gcd_pos_of_ne_zero_right f o;have r:ZB m (aK f d:Z):=by{refine p.le ?_;exact Nat.le_of_dvd o (by have:=Int.gcd_dvd_right f d;exact Int.ofNat_dvd_left.1 this)};refine⟨fun l k=>∃s A n c s' B n' c',l=[.bool s,.slice A n c,.bool s',.slice B n' c']/\h.le k/\NI k s A n c q.num/\NI k s' B n' c' q.den,?_,?_⟩;{refine A5d i3 r o ⟨_,rfl,?_⟩;rw[aH];refine B9 (fun e=>?_) (fun e=>?_);{refine Vj (i1.mono t) i3 o u r o ?_;intro L A4 R c4 s5 A5 n5 c5 h4 X E _;refine⟨_,_,_,_,_,_,_,_,rfl,?_⟩;refine Vj ((z.mono t).mono X) (i3.mono X) o p r o ?_;intro G A6 n6 c6 s7 A7 n7 c7 h5 l5 F _;have e1:f.tdiv (aK f d:Z)=q.num:=by{rw[g,Int.tdiv_eq_ediv_of_dvd (Int.gcd_dvd_left f d)]};have e2:d.tdiv (aK f d:Z)=q.den:=gz0;rw[e1]at E;rw[e2]at F;exact⟨_,_,_,_,_,_,_,_,rfl,_,_,_,_,_,_,_,_,rfl,B6 D (B6 t (B6 X l5)),E.mono l5,F⟩};·have hg:aK f d=1:=by{have:¬1<U5 (aK f d):=o;rw[A7k]at this;omega};rw[hg]at g j;simp at g j;exact⟨_,_,_,_,_,_,_,_,rfl,B6 D t,by rw[g];exact i1.mono t,by rw[j];exact z.mono t⟩};rintro L A4 R c4 s5 A5 n5 c5 ae ⟨W,A4',ag,N,T,A5',ah,ad,ak,C,E,i5⟩;obtain⟨rfl,⟨rfl,rfl,rfl⟩,rfl,rfl,rfl,rfl⟩:L=W/\(A4=A4'/\R=ag/\c4=N)/\s5=T/\A5=A5'/\n5=ah/\c5=ad:=gz0;have aa:ZB m (q.den:Z):=by{refine p.le ?_;have:=(Ps (a:=f) (b:=d) o).2;grind};refine⟨fun l k=>∃s' B n' c',l=[.bool s',.slice B n' c']/\k=ae/\NI k s' B n' c' (if q.den=1 then 0 else(q.den:Z)),?_,?_⟩;{refine A5d i5 aa o ⟨_,rfl,?_⟩;rw[aH];refine D4 (fun e=>?_) (fun e=>?_);{have:q.den=1:=A94.1 o;exact⟨_,_,_,_,rfl,rfl,by rw[iP this];exact NI.nil⟩};·have:¬q.den=1:=fun e1=>e (by rw[e1];rfl);grind};rintro G A6 n6 c6 ao ⟨ai,A6',S,ac,an,rfl,F⟩;obtain⟨rfl,rfl,rfl,rfl⟩:G=ai/\A6=A6'/\n6=S/\c6=ac:=gz0;exact hK ⟨L,A4,R,c4,G,A6,n6,c6⟩ _ C ⟨E,F⟩
def Ei(hz: -9223372036854775808<=z/\z<=9223372036854775807)(hK:∀w h',h.le h'->NQ h' w (z:Y)->K w.v h'):aI prog 11 #[I z] h K:=by refine(fnk func11 (own:=[2])) ?_;refine Ta hz ?_;intro s A n c b a i1;exact⟨_,_,_,_,rfl,hK ⟨s,A,n,c,false,none,0,0⟩ _ a (NQ.whole i1)⟩
def V9(i:NQ h w q)(hK:K (I q.num.sign) h):aI prog 45 #[w.v] h K:=by refine(fnk func45 (own:=[1])) ?_;exact A3c i.num ⟨_,rfl,hK⟩
def Vg(i:NQ h w q)(hK:∀w,NQ h w (-q)->K w.v h):aI prog 106 #[w.v] h K:=by refine(fnk func106 (os:=[(1,[0,1,3,4,2,5,6])]) (own:=[1,2])) ?_;refine A1i i.num ?_;intro a i1;exact⟨_,_,_,_,rfl,B8 h,hK ⟨a,w.A,w.n,w.c,w.s2,w.A2,w.n2,w.c2⟩ ⟨i1,i.den⟩⟩
def Dr(ia:NQ h a p)(ib:NQ h b q)(hp:Sz m p)(hq:Sz m q)(hm:m<=400000000)(hK:∀w h',h.le h'->NQ h' w (p+q)->K w.v h'):aI prog 33 #[a.v,b.v] h K:=by have R:=ia.den_zero;have O:=ib.den_zero;refine(fnk func33 (cs:=[(2,[16],[],[.bool false])]) (os:=[(3,[0,1,2,5,6,7,11,13,3,4,8,9,10,12,14,15,16,17])]) (own:=[2,3,4])) ?_;refine⟨fun l h'=>l=[.bool (decide (p.den=1/\q.den=1))]/\h'=h,D4 (fun e=>?_) (fun e=>?_),?_⟩;{refine⟨?_,rfl⟩;have:((b.n2:Z)==0)=decide (p.den=1/\q.den=1):=by{grind};rw[this]};{grind};rintro t F ⟨hl,rfl⟩;obtain rfl:t=decide (p.den=1/\q.den=1):=gz0;have f:=hp.num;have c:=hp.den;have g:=hq.num;have d:=hq.den;refine B9 (fun e=>?_) (fun e=>?_);{refine A96 ia.num ib.num f g o ?_;intro C A1 E c1 N j i1;refine⟨_,_,_,_,rfl,hK ⟨C,A1,E,c1,false,none,0,0⟩ _ j ?_⟩;have:p+q=((p.num+q.num:Z):Y):=by{rw[Gi,e.1,e.2];show aE (p.num*1+q.num*1) (1*1)=_;rw[aS,aS,aS,Kv]};rw[this];exact NQ.whole i1};·refine By ib ?_;intro C A1 E c1 N j i1;refine⟨_,_,_,_,rfl,j,?_⟩;refine Ej (ia.num.mono j) i1 f d o o ?_;intro s2 A2 n2 c2 h2 z G;refine⟨_,_,_,_,rfl,z,?_⟩;refine By (ia.mono (B6 j z)) ?_;intro s3 A3 n3 c3 h3 u Q;refine⟨_,_,_,_,rfl,u,?_⟩;have k:=B6 j (B6 z u);refine Ej (ib.num.mono k) Q g c o o ?_;intro W A4 n4 c4 h4 y S;refine⟨_,_,_,_,rfl,y,?_⟩;refine A96 (G.mono (B6 u y)) S (f.mul d) (g.mul c) o ?_;intro s5 A5 n5 c5 h5 A L;refine⟨_,_,_,_,rfl,A,?_⟩;have i:=B6 k (B6 y A);refine By (ia.mono i) ?_;intro V A6 n6 c6 h6 r T;refine⟨_,_,_,_,rfl,r,?_⟩;refine By (ib.mono (B6 i r)) ?_;intro s7 A7 n7 c7 h7 n M;refine⟨_,_,_,_,rfl,n,?_⟩;refine Ej (T.mono n) M c d o o ?_;intro X A8 n8 c8 h8 s H;refine⟨_,_,_,_,rfl,s,?_⟩;refine Pn (m:=m+m+1) (L.mono (B6 r (B6 n s))) H (aJ (den_ne p) (den_ne q)) ((f.mul d).add (g.mul c)) ((c.mul d).mono o) o ?_;intro w h9 D B;rw[<- Gi]at B;exact⟨_,_,_,_,_,_,_,_,rfl,D,hK w _ (B6 i (B6 r (B6 n (B6 s D)))) B⟩
def A3g(ia:NQ h a p)(ib:NQ h b q)(hp:Sz m p)(hq:Sz m q)(hm:m<=400000000)(hK:∀w h',h.le h'->NQ h' w (p-q)->K w.v h'):aI prog 46 #[a.v,b.v] h K:=by refine(fnk func46 (own:=[2,3,4])) ?_;refine Vg ib ?_;intro w i;refine⟨_,_,_,_,_,_,_,_,rfl,B8 h,?_⟩;refine Dr ia i hp hq.neg hm ?_;grind
def Y4(ia:NQ h a p)(ib:NQ h b q)(hp:Sz m p)(hq:Sz m q)(hm:m<=400000000)(hK:∀w h',h.le h'->NQ h' w (p*q)->K w.v h'):aI prog 34 #[a.v,b.v] h K:=by have E:=ia.den_zero;have C:=ib.den_zero;refine(fnk func34 (cs:=[(2,[16],[],[.bool false])]) (os:=[(3,[0,1,2,3,5,7,4,6,8,9,10,11])]) (own:=[2,3,4])) ?_;refine⟨fun l h'=>l=[.bool (decide (p.den=1/\q.den=1))]/\h'=h,D4 (fun e=>?_) (fun e=>?_),?_⟩;{refine⟨?_,rfl⟩;have:((b.n2:Z)==0)=decide (p.den=1/\q.den=1):=by{grind};rw[this]};{grind};rintro t z ⟨hl,rfl⟩;obtain rfl:t=decide (p.den=1/\q.den=1):=gz0;have c:=hp.num;have g:=hp.den;have d:=hq.num;have i:=hq.den;refine B9 (fun e=>?_) (fun e=>?_);{refine Ej ia.num ib.num c d o o ?_;intro s A1 y c1 B f i1;refine⟨_,_,_,_,rfl,hK ⟨s,A1,y,c1,false,none,0,0⟩ _ f ?_⟩;have:p*q=((p.num*q.num:Z):Y):=by{rw[Kq,e.1,e.2];show aE (p.num*q.num) (1*1)=_;rw[aS,Kv]};rw[this];exact NQ.whole i1};·refine Ej ia.num ib.num c d o o ?_;intro s A1 y c1 B f i1;refine⟨_,_,_,_,rfl,f,?_⟩;refine By (ia.mono f) ?_;intro N A2 T c2 H k A;refine⟨_,_,_,_,rfl,k,?_⟩;refine By (ib.mono (B6 f k)) ?_;intro R A3 L c3 Q j D;refine⟨_,_,_,_,rfl,j,?_⟩;refine Ej (A.mono j) D g i o o ?_;intro G A4 M c4 O n F;refine⟨_,_,_,_,rfl,n,?_⟩;refine Pn (m:=m+m) (i1.mono (B6 k (B6 j n))) F (aJ (den_ne p) (den_ne q)) (c.mul d) (g.mul i) o ?_;intro w S u r;rw[<- Kq]at r;exact⟨_,_,_,_,_,_,_,_,rfl,u,hK w _ (B6 f (B6 k (B6 j (B6 n u)))) r⟩
def Ol(ia:NQ h a p)(ib:NQ h b q)(hp:Sz m p)(hq:Sz m q)(hm:m<=400000000)(hK:∀w h',h.le h'->NQ h' w (p/q)->K w.v h'):aI prog 107 #[a.v,b.v] h K:=by refine(fnk func107 (os:=[(3,[0,1,2,5,7,8,3,4,6,9,10,11])]) (own:=[2,3,4])) ?_;have d:=hp.num;have f:=hp.den;have i:=hq.num;have g:=hq.den;refine V9 ib ⟨_,rfl,D4 (fun e=>?_) (fun e=>?_)⟩;{have y:q=0:=Rat.num_eq_zero.1 (Int.sign_eq_zero_iff_zero.1 e);have:=hK ⟨false,none,0,0,false,none,0,0⟩ h (B8 h) (by rw[y,Rat.div_def,Rat.inv_zero,Rat.mul_zero];exact NQ.zero);exact this};·have r:q.num≠0:=fun Q=>e gz0;refine By ib ?_;intro L A1 R c1 H j i1;refine⟨_,_,_,_,rfl,j,?_⟩;refine Ej (ia.num.mono j) i1 d g o o ?_;intro F A2 S c2 C n u;refine⟨_,_,_,_,rfl,n,?_⟩;refine By (ia.mono (B6 j n)) ?_;intro N A3 D c3 M k z;refine⟨_,_,_,_,rfl,k,?_⟩;have c:=B6 j (B6 n k);refine Ej z (ib.num.mono c) f i o o ?_;intro B A4 E c4 G l A;refine⟨_,_,_,_,rfl,l,?_⟩;refine Pn (m:=m+m) (u.mono (B6 k l)) A (aJ (den_ne p) r) (d.mul g) (f.mul i) o ?_;intro w O t s;rw[<- B0q]at s;exact⟨_,_,_,_,_,_,_,_,rfl,t,hK w _ (B6 c (B6 l t)) s⟩
def Om(ia:NQ h a p)(ib:NQ h b q)(hp:Sz m p)(hq:Sz m q)(hm:m<=400000000)(hK:K (I (p-q).num.sign) h):aI prog 16 #[a.v,b.v] h K:=by refine FCall.pure ((fnk func16 (own:=[2,3])) ?_);refine A3g ia ib hp hq hm ?_;intro w d c i1;refine⟨_,_,_,_,_,_,_,_,rfl,?_⟩;exact V9 i1 ⟨_,rfl,c,hK⟩
end
def dch(d:J):UInt8:=UInt8.ofNat (48+d)
def Ga{d:J}(h:d<10):(dch d).toNat=48+d:=by unfold dch;rw[UInt8.toNat_ofNat'];omega
def I8(c:UInt8):Prop:=48<=c.toNat/\c.toNat<=57
instance (c:UInt8):Decidable (I8 c):=by unfold I8;infer_instance
def C1x{d:J}(h:d<10):I8 (dch d):=by unfold I8;rw[Ga h];omega
def B98{c:UInt8}(h:I8 c):dch (c.toNat-48)=c:=by unfold I8 at h;apply UInt8.toNat_inj.1;rw[Ga o];omega
def dd(n:J):bF UInt8:=if _h:n=0 then []else dd (n/10)++[dch (n%10)]
def Q7:dd 0=[]:=by unfold dd;simp
def Fz{n:J}(h:n≠0):dd n=dd (n/10)++[dch (n%10)]:=by rw[dd];simp[h]
def K9(l:bF UInt8):J:=l.foldl (fun a c=>10*a+(c.toNat-48)) 0
def Jo(l:bF UInt8)(c:UInt8):K9 (l++[c])=10*K9 l+(c.toNat-48):=by simp[K9]
def C1p(l:bF UInt8):∀a,l.foldl (fun a c=>10*a+(c.toNat-48)) a=a*10^l.length+K9 l:=by
 induction l with
 |nil=>intro a;simp[K9]
 |cons c l ih=>
  intro a;unfold K9;grind
def Hm(a b:bF UInt8):K9 (a++b)=K9 a*10^b.length+K9 b:=by unfold K9;rw[List.foldl_append,C1p b];rfl
def B44(c:UInt8)(l:bF UInt8):K9 (c::l)=(c.toNat-48)*10^l.length+K9 l:=by rw[<- List.singleton_append,Hm];simp[K9]
def Ff{l:bF UInt8}(h:∀c∈l,I8 c):K9 l<10^l.length:=by
 induction l with
 |nil=>simp[K9]
 |cons c l ih=>
  have d:=ih fun x b=>h x (by simp[b]);have a:=h c (by simp);unfold I8 at a;rw[B44,List.length_cons,bC];have:(c.toNat-48)*10^l.length<=9*10^l.length:=Nat.mul_le_mul_right _ o;omega
def C1q(n:J):K9 (dd n)=n:=by
 induction n using aU with
 |_ n ih=>
  by_cases h:n=0;·subst h;rw[Q7];rfl
  ·rw[Fz h,Jo,ih _ o,Ga o];omega
def C5j(n:J):∀c∈dd n,I8 c:=by
 induction n using aU with
 |_ n ih=>
  by_cases h:n=0;·subst h;rw[Q7];simp
  ·rw[Fz h];intro c b;rcases List.mem_append.1 b with a|a;·grind
   ·rw[List.mem_singleton.1 a];exact C1x o
def B7o{n:J}(h:n≠0):dd n≠[]:=by rw[Fz h];simp
def B4h(n:J)(h:n≠0):(dd n).head? ≠ some 48:=by
 induction n using aU with
 |_ n ih=>
  rw[Fz h];by_cases a:n/10=0
  ·rw[a,Q7];simp only[List.nil_append,List.head?_cons,ne_eq,Option.some.injEq];intro e;have:=Ga (d:=n%10) o;rw[e]at this;grind
  ·obtain⟨c,r,e⟩:=aW (B7o a);grind
def B4i{l:bF UInt8}(h:∀c∈l,I8 c)(h0:l.head? ≠ some 48):dd (K9 l)=l:=by
 obtain⟨n,hn⟩:∃n,l.length=n:=⟨_,rfl⟩
 induction n generalizing l with
 |zero=>rw[aR hn];exact Q7
 |succ n ih=>
  obtain⟨m,c,rfl⟩:∃m c,l=m++[c]:=by
   refine⟨l.dropLast,l.getLast gz0,?_⟩;rw[List.dropLast_concat_getLast]
  have f:=h c (by simp);have b:=f;unfold I8 at b;rw[Jo]
  cases m with
  |nil=>
   simp at h0
   have i:c.toNat-48≠0:=by
    intro e;apply h0;apply UInt8.toNat_inj.1;grind
   rw[Fz o];simp only[K9,List.foldl_nil,List.nil_append];rw[show(10*0+(c.toNat-48))/10=0 from o,Q7,show(10*0+(c.toNat-48))%10=c.toNat-48 from o,B98 f];rfl
  |cons d m=>
   have a:=ih (l:=d::m) (fun x j=>h x gz0) (by assumption) gz0
   have g:K9 (d::m)≠0:=by
    intro e;rw[e,Q7]at a;cases a
   rw[Fz o,show(10*K9 (d::m)+(c.toNat-48))/10=K9 (d::m)from o,a,show(10*K9 (d::m)+(c.toNat-48))%10=c.toNat-48 from o,B98 f]
def V6{n k:J}:(dd n).length<=k↔n<10^k:=by
 induction k generalizing n with
 |zero=>
  constructor
  ·intro h;have:dd n=[]:=aR o;by_cases a:n=0;·omega
   ·exact absurd this (B7o a)
  ·intro h;have:n=0:=o;subst this;rw[Q7];simp
 |succ k ih=>
  by_cases a:n=0;·grind
  ·rw[Fz a,List.length_append,List.length_singleton,Nat.add_le_add_iff_right,ih,bC];omega
def pad(w n:J):bF UInt8:=List.replicate (w-(dd n).length) 48++dd n
def A8d(n:J):pad 0 n=dd n:=by simp[pad]
def Zi{w n:J}(h:n<10^w):(pad w n).length=w:=by have:=V6.2 h;simp[pad];omega
def Ua(w n:J):pad (w+1) n=pad w (n/10)++[dch (n%10)]:=by unfold pad;by_cases h:n=0;{subst h;rw[Q7];simp only[List.length_nil,Nat.sub_zero,List.append_nil,Nat.zero_mod];rw[List.replicate_succ'];rfl};·rw[Fz h,List.length_append,List.length_singleton,Nat.add_sub_add_right,aN]
def C5i{h l k:J}(h0:h≠0)(hl:l<10^k):dd (h*10^k+l)=dd h++pad k l:=by
 induction k generalizing l with
 |zero=>
  have:l=0:=o;subst this;simp[pad,Q7]
 |succ k ih=>
  have a:h*10^(k+1)+l≠0:=by
   have:0<h*10^(k+1):=Nat.mul_pos o (aQ dc);omega
  have c:(h*10^(k+1)+l)/10=h*10^k+l/10:=by
   rw[bC,<- Nat.mul_assoc];omega
  have b:(h*10^(k+1)+l)%10=l%10:=by
   grind
  rw[Fz a,c,b,ih o,Ua,aN]
def A43{w h l k:J}(hl:l<10^k)(hw:h≠0\/k<=w):pad w (h*10^k+l)=pad (w-k) h++pad k l:=by by_cases b:h=0;{subst b;have:=V6.2 hl;unfold pad;rw[Q7];simp only[Nat.zero_mul,Nat.zero_add,List.length_nil,Nat.sub_zero,List.append_nil,<- aN,List.replicate_append_replicate];grind};·have e:=C5i b hl;have a:=Zi hl;unfold pad at a;unfold pad at e ⊢;grind
def T7(n:J):bF UInt8:=if n=0 then [48]else dd n
def Et{n:J}(h:n≠0):T7 n=dd n:=by simp[T7,h]
def Bw(n:J):K9 (T7 n)=n:=by unfold T7;split;{rename_i h;subst h;rfl};·exact C1q n
def Px(n:J):∀c∈T7 n,I8 c:=by unfold T7;split;{intro c a;rw[List.mem_singleton.1 a];decide};·exact C5j n
def Wz(n:J):T7 n≠[]:=by unfold T7;split;{simp};·rename_i h;exact B7o h
def B7n{a b:J}(h:T7 a=T7 b):a=b:=by rw[<- Bw a,h,Bw]
def Pv{l:bF UInt8}(h:∀c∈l,I8 c)(hn:l≠[])(h0:l.head? ≠ some 48\/l=[48]):T7 (K9 l)=l:=by rcases h0 with h0|h0;{have:=B4i h h0;rw[Et,this];intro e;rw[e,Q7]at this;grind};·subst h0;rfl
def Pu{n k:J}(hk:0<k):(T7 n).length<=k↔n<10^k:=by by_cases h:n=0;{subst h;have:0<10^k:=aQ dc;simp[T7];omega};·rw[Et h];exact V6
def Qp(z:Z):bF UInt8:=if z<0 then 45::T7 z.natAbs else T7 z.natAbs
def E7(q:Y):bF UInt8:=Qp q.num++(if q.den=1 then []else 47::T7 q.den)
structure Form (s:bF UInt8) (neg:Bool) (a b:bF UInt8):Prop where
 eq:s=(if neg then [45] else [])++a++(if b=[] then [] else 47::b)
 da:∀ c∈a,I8 c
 db:∀ c∈b,I8 c
 ne:a≠[]
 ha:a.head? ≠ some 48\/(a=[48]/\neg=false/\b=[])
 hb:b.head? ≠ some 48
 b1:b≠[49]
def A8m{c:UInt8}(h:I8 c):c≠45/\c≠47:=by unfold I8 at h;constructor<;>(rintro rfl;grind)
def Ha{a r:bF UInt8}(h:∀c∈a,I8 c)(hr:∀c,r.head? = some c->¬I8 c):(a++r).takeWhile (fun c=>decide (I8 c))=a/\(a++r).dropWhile (fun c=>decide (I8 c))=r:=by
 induction a with
 |nil=>
  cases r with
  |nil=>simp
  |cons c r=>
   simp_all
 |cons c a ih=>
  simp_all
def Form.head{s:bF UInt8}{neg:Bool}{a b:bF UInt8}(f:Form s neg a b):neg=(s.head? == some 45):=by obtain⟨c,r,e⟩:=aW f.ne;have d:=(A8m (f.da c (by simp[e]))).1;rw[f.eq,e];grind
def Form.unique{s:bF UInt8}{neg neg':Bool}{a b a' b':bF UInt8}(f:Form s neg a b)(g:Form s neg' a' b'):neg=neg'/\a=a'/\b=b':=by have l:neg=neg':=by{rw[f.head,g.head]};have e:=f.eq.symm.trans g.eq;have i:∀b:bF UInt8,∀c,(if b=[]then []else 47::b:bF UInt8).head? = some c->¬I8 c:=by{intro b c d;split at d;{grind};·simp at d;subst d;decide};have k:=Ha f.da (i b);have j:=Ha g.da (i b');grind
def Xa{q:Y}(h:q.num=0):q.den=1:=by simp_all
def Fo(q:Y):Form (E7 q) (decide (q.num<0)) (T7 q.num.natAbs) (if q.den=1 then []else T7 q.den):=by constructor;{unfold E7 Qp;by_cases a:q.num<0<;>by_cases b:q.den=1<;>simp[a,b,Wz]};{exact Px _};{split;{simp};·exact Px _};{exact Wz _};{by_cases h:q.num=0;{right;rw[Xa h,h];simp[T7]};·left;rw[Et o];exact B4h _ o};{split;{simp};·rw[Et q.den_nz];exact B4h _ q.den_nz};·split;{simp};·rename_i h;intro e;have c:T7 q.den=T7 1:=by{rw[e];simp[T7,Fz,Q7,dch]};exact h (B7n c)
def Tk(neg:Bool)(a:bF UInt8):Z:=if neg then -(K9 a:Z)else K9 a
def Np(b:bF UInt8):J:=if b=[]then 1 else K9 b
def Wu{b:bF UInt8}(h:∀c∈b,I8 c)(hn:b≠[])(h0:b.head? ≠ some 48):K9 b≠0:=by intro e;have:=B4i h h0;rw[e,Q7]at this;grind
def Form.den_ne{s:bF UInt8}{neg:Bool}{a b:bF UInt8}(f:Form s neg a b):Np b≠0:=by unfold Np;split;{decide};·rename_i h;exact Wu f.db h f.hb
def Form.txt{s:bF UInt8}{neg:Bool}{a b:bF UInt8}(f:Form s neg a b){q:Y}(h1:q.num=Tk neg a)(h2:q.den=Np b):s=E7 q:=by have k:T7 (K9 a)=a:=Pv f.da f.ne (f.ha.imp id fun h=>h.1);have d:(Tk neg a).natAbs=K9 a:=by{unfold Tk;omega};have c:(Tk neg a<0)↔neg=true:=by{unfold Tk;cases neg;{simp};·simp only[if_true];constructor;{grind};·intro _;have:K9 a≠0:=by{rcases f.ha with h|h;{exact Wu f.da f.ne h};grind};omega};have j:(Np b=1)↔b=[]:=by{unfold Np;split;{grind};·rename_i h;constructor;{intro e;exfalso;have g:=Pv f.db h (Or.inl f.hb);rw[e]at g;apply f.b1;rw[<- g];simp[T7,Fz,Q7,dch]};grind};rw[f.eq];unfold E7 Qp;by_cases i:b=[];{grind};·have l:T7 (Np b)=b:=by{unfold Np;rw[iN i];exact Pv f.db i (Or.inl f.hb)};grind
def Form.of_txt{s:bF UInt8}{neg:Bool}{a b:bF UInt8}(f:Form s neg a b){q:Y}(e:s=E7 q):q.num=Tk neg a/\q.den=Np b:=by subst e;obtain⟨g,d,c⟩:=f.unique (Fo q);subst g d c;constructor;{unfold Tk;rw[Bw];grind};·unfold Np;by_cases h:q.den=1;{simp[h]};·simp[h,Wz,Bw]
def A0h{p q:Y}(e:E7 p=E7 q):p=q:=by have f:=Fo p;have a:=f.of_txt rfl;have b:=f.of_txt e;exact Rat.ext (a.1.trans b.1.symm) (a.2.trans b.2.symm)
def IsNum(s:bF UInt8):Prop:=∃q,s=E7 q
def Form.isNum{s:bF UInt8}{neg:Bool}{a b:bF UInt8}(f:Form s neg a b):IsNum s↔Nat.gcd (K9 a) (Np b)=1:=by have c:(Tk neg a).natAbs=K9 a:=by{unfold Tk;omega};constructor;{rintro⟨q,e⟩;have:=f.of_txt e;have d:=q.reduced;grind};·intro h;exact⟨⟨Tk neg a,Np b,f.den_ne,gz0⟩,f.txt rfl rfl⟩
def IsNum.form{s:bF UInt8}(h:IsNum s):∃neg a b,Form s neg a b:=by obtain⟨q,rfl⟩:=h;exact⟨_,_,_,Fo q⟩
def B6g(s:bF UInt8):Y:=
 let neg:=s.head? == some 45
 let t:=if neg then s.drop 1 else s
 mkRat (Tk neg (t.takeWhile fun c=>decide (I8 c))) (Np ((t.dropWhile fun c=>decide (I8 c)).drop 1))
def rv(s:bF UInt8):Y:=if E7 (B6g s)=s then B6g s else 0
def F3(q:Y):rv (E7 q)=q:=by have f:=Fo q;have k:=f.head;have d:∀b:bF UInt8,∀c,(if b=[]then []else 47::b:bF UInt8).head? = some c->¬I8 c:=by{intro b c a;split at a;{grind};·simp at a;subst a;decide};have e:B6g (E7 q)=q:=by{unfold B6g;simp only[<- k];generalize hb:(if q.den=1 then []else T7 q.den)=b at f;have j:(if decide (q.num<0)=true then(E7 q).drop 1 else E7 q)=T7 q.num.natAbs++(if b=[]then []else 47::b):=by{rw[f.eq];grind};rw[j,(Ha f.da (d b)).1,(Ha f.da (d b)).2];have g:=f.of_txt rfl;have i:(if b=[]then []else 47::b:bF UInt8).drop 1=b:=by{grind};rw[i,<- g.1,<- g.2,Rat.mkRat_self]};unfold rv;grind
def B23{s:bF UInt8}(h:¬IsNum s):rv s=0:=by unfold rv;rw[iN (fun e=>h ⟨_,e.symm⟩)]
def Form.rv_num{s:bF UInt8}{neg:Bool}{a b:bF UInt8}(f:Form s neg a b)(h:IsNum s):(rv s).num=Tk neg a/\(rv s).den=Np b:=by obtain⟨q,rfl⟩:=h;rw[F3];exact f.of_txt rfl
