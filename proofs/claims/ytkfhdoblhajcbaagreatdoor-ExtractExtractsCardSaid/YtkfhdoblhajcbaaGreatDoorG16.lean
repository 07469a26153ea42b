/- A part. -/
import Derived.Test.YtkfhdoblhajcbaaGreatDoorG14
import Derived.Test.YtkfhdoblhajcbaaGreatDoorG15
open Go.Proofs.Tryz
set_option linter.all false
open Int renaming mul_le_mul_of_nonneg_right->aC,le_of_lt->aE,natAbs_natCast->aF,mul_ne_zero->aH,gcd->aJ,natCast_ediv->aQ,mul_one->aS,mul_le_mul_of_nonneg_left->aT,tmod_eq_emod_of_nonneg->aX
open List renaming append_assoc->aL,length_append->aO,eq_nil_of_length_eq_zero->aR,exists_cons_of_ne_nil->aW,getElem?_cons_zero->aZ
open Nat renaming pow_succ->aI,pow_pos->aK,le_refl->aM,mul_le_mul_left->aN,strongRecOn->aU
open Rat renaming divInt->aD,divInt_ofNat->aP
open _root_.Go renaming Addr->aV
open _root_.Go.Proofs.YtkfhdoblhajcbaaGreatDoor renaming FCall->aG,Heap->aY
namespace Go.Proofs.YtkfhdoblhajcbaaGreatDoor
set_option maxRecDepth 20000
open Go
section
variable {h g:aY} {K:VP} {A B:Option aV} {ac bc:Nat}
def B8y{P:Program}{t e:TypeId}{z:Value}{bytes:Nat}(s:SliceT P t e z 1 bytes){u v:Value}(hu:u.cells=#[u])(hv:v.cells=#[v]){K:VP}{h:aY} (x:∀b,h b=none->K (.slice (some ⟨b,0,none⟩) 2 2) (h.put b (.cells #[u,v] e))):wpH P (Instr.buildSlice t 2 #[(0,u),(1,v)]) K h:=by refine Cj s o (cells:=#[u,v]) ?_ x;have c:(F7 z.cells 2).size=2:=by{simp[F7,s.cells]};have:F7 z.cells 2=#[(F7 z.cells 2)[0]'o,(F7 z.cells 2)[1]'o]:=by{grind};rw[this];simp[Instr.fill,hu,hv]
def Cl{B:Int}(hB:0<B){xs:List Int}(d:Dig B xs){m:Nat}(hl:xs.length=m+1):val B xs<(xs.getD m 0+1)*B^m/\xs.getD m 0*B^m<=val B xs:=by have c:=I0 B xs m;have e:=O5 hB (d.take m);have f:=D0 hB (d.take m);grind
def A1i{xs:List Int}{m:Nat}(hl:xs.length=m+1)(hn:Norm xs):xs.getD m 0≠0:=by intro c;apply hn;grind
def Vc{x y:Int}{an bn:Nat}(ma:Mg h A an x)(mb:Mg h B bn y)(hy:y≠0)(hl:an<=100000000)(hl2:bn<=100000000)
 (hK:∀A1 m1 c1 A2 m2 c2 h',h.le h'->m1<=c1->m2<=c2->Mg h' A1 m1 (x/y)->Mg h' A2 m2 (x%y)->K (.tuple #[.slice A1 m1 c1,.slice A2 m2 c2]) h'):aG prog 138 #[.slice A an ac,.slice B bn bc] h K:=by
 have D:=ma.nonneg dc;have ao:=mb.nonneg dc;have az:=mb.len_zero dc;have X:=ma.lt dc;refine A9l _ _ _ _ _ _ ?_;refine Vi ma mb o ⟨_,rfl,C1 (fun h1=>?_) (fun h1=>D5 (fun h2=>?_) (fun h2=>?_))⟩
 ·have E:x<y:=by
   omega
  rw[Int.ediv_eq_zero_of_lt D E,Int.emod_eq_of_lt D E]at hK;obtain⟨xs,rfl,sx,dx,nx,rfl⟩:=ma;refine Da Sx ?_;intro b hb;refine⟨_,_,_,rfl,?_⟩;have c:=Heap.le_put (h:=h) (b:=b) (.cells #[] 197) hb;have af:=SlI.mono c sx;refine Bp Sx (Priv.nil _ _ _ _) (ys:=xs.map (Value.int .u32)) (by simp) af (fun v hv=>?_) o o ?_;·obtain⟨a,_,rfl⟩:=List.mem_map.1 hv;rfl
  ·intro A' c' h' g' hg W;have w:=W.slV;simp only[Nat.zero_add]at W ⊢;exact⟨_,_,_,rfl,hK none 0 0 A' xs.length c' h' (B0 c (B0 hg W.le)) (aM _) W.2.1 Mag.zero ⟨xs,rfl,w,dx,nx,rfl⟩⟩
 ·obtain⟨ys,rfl,V,R,ny,rfl⟩:=mb
  obtain⟨d,rfl⟩:∃d,ys=[d]:=by
   cases ys with
   |nil=>grind
   |cons d r=>
    grind
  rw[Ct]at hy ao hK;have hd:=R d (by simp);refine V.load rfl o (by simp) ?_;show aG _ _ #[_,U32 d] _ _;refine Nf ma ⟨o,hd.2⟩ hl ?_;intro A' m c' h' c hm a0 hM;refine⟨_,_,_,_,rfl,?_⟩;refine V6 Sx rfl ?_;intro b hb;refine⟨_,_,_,rfl,?_⟩;have q:=Heap.le_put (h:=h') (b:=b) (.cells #[U32 (x%d)] 197) hb
  have hr:0<=x%d/\x%d<4294967296:=by
   have h3:=Int.emod_nonneg x (show d≠0 from o);have h4:=Int.emod_lt_of_pos x (show 0<d from o);grind
  refine Cd (xs:=[x%d]) (SlI.new h' b [x%d] 197 _) (Dig.one hr) (aM _) (by simp) ?_;intro m2 F p;rw[Ct]at p;exact⟨_,_,_,rfl,hK _ _ _ _ _ _ _ (B0 c q) hm o (hM.mono q) p⟩
 ·have ap:y<=x:=by
   omega
  have a3:bn<=an:=mb.len_le dc (Int.lt_of_le_of_lt ap X);obtain⟨xs,rfl,sx,dx,nx,rfl⟩:=ma;obtain⟨ys,rfl,V,R,ny,rfl⟩:=mb;obtain⟨mm,hmm⟩:∃mm,ys.length=mm+2:=⟨ys.length-2,o⟩;have gt:=Ci R (mm+1);have a1:=A1i (m:=mm+1) hmm ny;obtain⟨ad,M⟩:=Cl (B:=b32) dc R (m:=mm+1) hmm;refine⟨fun l h'=>∃s:Nat,l=[U s]/\h'=h/\s<32/\ys.getD (mm+1) 0*2^s<4294967296,fun l _=>32-(iAt l 0).toNat,⟨0,rfl,rfl,o,o⟩,?_⟩;rintro si aj ⟨s,ay,rfl,w,al⟩;obtain rfl:si=(s:Int):=gz0;have e1:C4 ((ys.length:Int)-1)=((mm+1:Nat):Int):=by rw[C2 o o];omega
  rw[e1];refine V.load rfl o o ?_;refine C1 (fun e=>absurd e o) (fun _=>?_);have f:0<(2:Int)^s:=Int.pow_pos dc
  have ax:2^s<=ys.getD (mm+1) 0*2^s:=by
   have:=aC (show 1<=ys.getD (mm+1) 0 from o) (aE f);omega
  have e2:J7 (ys.getD (((mm+1:Nat):Int)).toNat 0*2^(min ((s:Int)).toNat 32))=ys.getD (mm+1) 0*2^s:=by
   rw[Int.toNat_natCast,Int.toNat_natCast,Nat.min_eq_left o,Z9 o al]
  refine C1 (fun h3=>?_) (fun h3=>?_)
  ·have H:s+1<32:=by
    grind
   have e3:C8 ((s:Int)+1)=((s+1:Nat):Int):=by rw[C6 o o];omega
   rw[e3];refine⟨⟨s+1,rfl,rfl,H,?_⟩,by simp only[iAt,aZ];omega⟩;rw[Int.pow_succ,<- Int.mul_assoc];omega
  ·have ag:val b32 ys*2^s<b32^(mm+2):=by
    have am:=Ms (Nat.le_of_lt w)
    have t1:ys.getD (mm+1) 0+1<=2^(32-s):=by
     by_cases u:ys.getD (mm+1) 0+1<=2^(32-s);·exact u
     ·have:=aC (show(2:Int)^(32-s)<=ys.getD (mm+1) 0 from o) (aE f);grind
    have t2:val b32 ys*2^s<(ys.getD (mm+1) 0+1)*b32^(mm+1)*2^s:=Int.mul_lt_mul_of_pos_right ad f
    have t4:(ys.getD (mm+1) 0+1)*2^s*b32^(mm+1)<=4294967296*b32^(mm+1):=by
     apply aC _ (aE (E7 dc _));rw[<- am,Int.mul_comm (2^s)];simp_all
    rw[Int.pow_succ b32 (mm+1),Int.mul_comm (b32^(mm+1))];grind
   have a2:2147483648*b32^(mm+1)<=val b32 ys*2^s:=by
    have t1:ys.getD (mm+1) 0*b32^(mm+1)*2^s<=val b32 ys*2^s:=aC M (aE f);have t2:2147483648*b32^(mm+1)<=ys.getD (mm+1) 0*2^s*b32^(mm+1):=aC o (aE (E7 dc _));grind
   refine Kb V R w o ?_;intro bv zv ai Q ak aw;refine⟨_,_,_,rfl,?_⟩;rw[<- Q];refine Cd (Bo _ _ _ _ _) ak (aM _) o ?_;intro n hn g;refine⟨_,_,_,rfl,?_⟩;rw[aw]at g
   have av:n=mm+2:=by
    have l1:=g.len_le dc ag;have l2:=g.lt dc;by_cases u:n=mm+2;·exact u
    ·have:=D9 (B:=b32) dc (show n<=mm+1 from o);have:=E7 (B:=b32) dc (mm+1);omega
   subst av;obtain⟨T,O,sv,dv,nv,L⟩:=g
   have ae:4294967296<=2*T.getD (mm+1) 0:=by
    obtain⟨q1,q2⟩:=Cl (B:=b32) dc dv (m:=mm+1) O.symm
    have:2147483648<T.getD (mm+1) 0+1:=by
     by_cases u:2147483648<T.getD (mm+1) 0+1;·exact u
     ·have:=aC (show T.getD (mm+1) 0+1<=2147483648 from o) (aE (E7 (B:=b32) dc (mm+1)));omega
    omega
   have t:=Dd (k:=.u32) (e:=197) ai zv;refine Kb (SlI.mono t sx) dx w o ?_;intro bu C aq ar S ah;refine⟨_,_,_,rfl,?_⟩;obtain⟨nq,hnq⟩:∃nq,xs.length+1=nq+(mm+2):=⟨xs.length+1-(mm+2),o⟩
   have e4:C4 (C4 (C4 (((xs.length+1:Nat):Int)-((mm+2:Nat):Int))-1)+1)=(nq:Int):=by
    rw[C2 (n:=((xs.length+1:Nat):Int)-((mm+2:Nat):Int)) o o,C2 (n:=_-(1:Int)) o o,C2 o o];omega
   rw[e4];refine N4 Sx o o o ?_;intro bq j;refine⟨_,_,_,rfl,?_⟩
   have z:bu≠bq:=by
    rintro rfl;unfold blk at j;rw[C3]at j;cases j
   have G:blk .u32 197 aj bv zv bq=none:=by
    have:=j;unfold blk at this ⊢;rwa [B9 _ _ z.symm]at this
   refine A9i (us0:=C) (N:=xs.length+1) aq G z sv dv O.symm ae w L rfl S ar ah hnq o o ?_ ?_
   ·have s1:=G7 b32 C (i:=nq) o;have s2:=D0 dc (S.take nq)
    have s3:val b32 C<b32^xs.length*2^s:=by
     simp_all
    have s4:b32^(mm+1)<=val b32 ys:=by
     have:=aC (show 1<=ys.getD (mm+1) 0 from o) (aE (E7 (B:=b32) dc (mm+1)));omega
    have s5:b32^nq*(b32^(mm+1)*2^s)<=b32^nq*(val b32 ys*2^s):=aT (aC s4 (aE f)) (aE (E7 dc nq))
    have s6:b32^nq*(b32^(mm+1)*2^s)=b32^xs.length*2^s:=by
     grind
    by_cases u:val b32 (C.drop nq)<val b32 ys*2^s;·exact u
    ·have:=aT (show val b32 ys*2^s<=val b32 (C.drop nq)from o) (aE (E7 (B:=b32) dc nq));omega
   ·intro A1 m1 c1 A2 m2 c2 h' c au F aa p;exact hK _ _ _ _ _ _ _ (B0 t c) au F aa p
end
def SlI.unique{k:IntKind}{h:aY}{A:Option aV}{xs ys:List Int}(s:SlI k h A xs)(t:SlI k h A ys)(hl:xs.length=ys.length):xs=ys:=by apply List.ext_getElem hl;intro i f e;obtain⟨a,d,j⟩:=SlV.at s (i:=i) gz0;obtain⟨b,g,c⟩:=SlV.at t (i:=i) gz0;grind
def A7q(h:aY)(A:Option aV)(len:Nat):List Int:=(List.range len).map fun i=>
 match A with
 |some a=>(match h.cell? (a.add i)with|some (.int _ n)=>n|_=>0)
 |none=>0
def B1i(B:Int)(h:aY)(A:Option aV)(len:Nat):Nat:=(val B (A7q h A len)).toNat
def B2r{k:IntKind}{h:aY}{A:Option aV}{xs:List Int}(s:SlI k h A xs):A7q h A xs.length=xs:=by apply List.ext_getElem;{simp[A7q]};·intro i e f;obtain⟨a,c,d⟩:=SlV.at s (i:=i) gz0;subst c;simp[A7q,d]
def Bt{k:IntKind}{B:Int}{h:aY}{A:Option aV}{len:Nat}{n:Int}(m:Mag k B h A len n):B1i B h A len=n.toNat:=by obtain⟨c,rfl,s,_,_,rfl⟩:=m;unfold B1i;rw[B2r s]
def ZB(m:Nat)(z:Int):Prop:=z.natAbs<2^m
def ZB.mono{m n:Nat}{z:Int}(h:ZB m z)(hm:m<=n):ZB n z:=Nat.lt_of_lt_of_le h (Nat.pow_le_pow_right dc hm)
def ZB.neg{m:Nat}{z:Int}(h:ZB m z):ZB m (-z):=by unfold ZB at *;omega
def ZB.add{m:Nat}{x y:Int}(hx:ZB m x)(hy:ZB m y):ZB (m+1) (x+y):=by unfold ZB at *;omega
def ZB.sub{m:Nat}{x y:Int}(hx:ZB m x)(hy:ZB m y):ZB (m+1) (x-y):=by exact hx.add hy.neg
def ZB.mul{m n:Nat}{x y:Int}(hx:ZB m x)(hy:ZB n y):ZB (m+n) (x*y):=by unfold ZB at *;rw[Int.natAbs_mul,Nat.pow_add];have c:x.natAbs*y.natAbs<=x.natAbs*2^n:=aN _ (Nat.le_of_lt hy);have d:x.natAbs*2^n<2^m*2^n:=Nat.mul_lt_mul_of_pos_right hx (aK dc);omega
def ZB.le{m:Nat}{x y:Int}(hx:ZB m x)(h:y.natAbs<=x.natAbs):ZB m y:=Nat.lt_of_le_of_lt h hx
def ZB.one{m:Nat}(h:1<=m):ZB m 1:=ZB.mono (m:=1) (by unfold ZB;decide) h
def ZB.zero{m:Nat}:ZB m 0:=aK dc
def B8w{k:IntKind}{j:Nat}(hj:0<j){h:aY}{A:Option aV}{n m:Nat}{x:Int}(M:Mag k ((2:Int)^j) h A n x)(hx:x<2^m):n<=m/j+1:=by refine M.len_le ?_ ?_;{have:=D9 (B:=2) dc hj;omega};·have e:((2:Int)^j)^(m/j+1)=2^(j*(m/j+1)):=by{rw[Int.pow_mul]};have:m<=j*(m/j+1):=by{have c:=Nat.div_add_mod m j;have d:=Nat.mod_lt m hj;grind};have:=D9 (B:=2) dc this;omega
structure NI (h:aY) (s:Bool) (A:Option aV) (n c:Nat) (z:Int):Prop where
 mag:Mg h A n (z.natAbs:Int)
 sg:s=decide (z<0)
 cap:n<=c
section
variable {h h':aY} {K:VP} {A B:Option aV} {n c n' c':Nat} {s s':Bool} {x y z:Int} {m:Nat}
def NI.mono(hl:h.le h')(i:NI h s A n c z):NI h' s A n c z:=⟨i.mag.mono hl,i.sg,i.cap⟩
def NI.len(i:NI h s A n c z)(hz:ZB m z)(hm:m<=1000000000):n<=100000000:=by have:=B8w (j:=32) dc i.mag (m:=m) (by unfold ZB at hz;grind);omega
def NI.zero_iff(i:NI h s A n c z):n=0↔z=0:=by have:=i.mag.len_zero dc;omega
def NI.nil:NI h false A 0 0 0:=⟨Mag.zero,rfl,aM _⟩
def U4{neg:Bool}{x:Int}(M:Mg h A n x)(hc:n<=c)(hK:∀s,NI h s A n c (if neg then -x else x)->K (.agg #[.bool s,.slice A n c]) h):aG prog 96 #[.bool neg,.slice A n c] h K:=by have d:=M.nonneg dc;have f:=M.len_zero dc;refine(fnk func96 (own:=[4])) ?_;refine Br.of (fun e=>?_) (fun e=>?_);{refine hK _ ⟨?_,?_,hc⟩;{grind};grind};·refine hK _ ⟨?_,?_,hc⟩;{grind};grind
def Z5(hz: -9223372036854775808<=z/\z<=9223372036854775807)(hK:∀s A n c h',h.le h'->NI h' s A n c z->K (.agg #[.bool s,.slice A n c]) h'):aG prog 83 #[I z] h K:=by refine(fnk func83 (cs:=[(4,[3],[],[U 0])]) (own:=[2])) ?_;refine⟨fun l h'=>l=[U z.natAbs]/\h'=h,C1 (fun j=>⟨?_,rfl⟩) (fun j=>⟨?_,rfl⟩),?_⟩;{have:C8 (0-C8 z)=z.natAbs:=by{rw[F6,F6];omega};rw[this]};{have:C8 z=z.natAbs:=by{rw[F6];omega};rw[this]};·rintro u f ⟨r,rfl⟩;obtain rfl:u=(z.natAbs:Int):=gz0;rw[Cb,Wf,Z9 (n:=(z.natAbs:Int)/4294967296) o o];refine B8y Sx rfl rfl ?_;intro b k;refine⟨_,_,_,rfl,?_⟩;have e:Dig b32 [(z.natAbs:Int)%4294967296,(z.natAbs:Int)/4294967296]:=by{intro d e;grind};refine Cd (xs:=[(z.natAbs:Int)%4294967296,(z.natAbs:Int)/4294967296]) (SlI.new f b _ 197 _) e (aM _) (by simp) ?_;intro m p g;have q:val b32 [(z.natAbs:Int)%4294967296,(z.natAbs:Int)/4294967296]=z.natAbs:=by{simp only[val];grind};refine⟨_,_,_,rfl,?_⟩;refine U4 g o ?_;intro s i;refine⟨_,_,_,_,rfl,hK _ _ _ _ _ (Heap.le_put _ k) ?_⟩;grind
def B0d(i:NI h s A n c z)(hK:K (I z.sign) h):aG prog 68 #[.agg #[.bool s,.slice A n c]] h K:=by have f:=i.zero_iff;have d:=i.sg;refine(fnk func68 (own:=[1])) ?_;refine Br.of (fun e=>?_) (fun e=>?_);{grind};·refine D5 (fun e=>?_) (fun e=>?_);{grind};grind
def Zp(i:NI h s A n c z)(hK:∀s,NI h s A n c (-z)->K (.agg #[.bool s,.slice A n c]) h):aG prog 84 #[.agg #[.bool s,.slice A n c]] h K:=by refine(fnk func84 (own:=[1,2])) ?_;refine U4 i.mag i.cap ?_;intro e d;refine⟨_,_,_,_,rfl,hK _ ?_⟩;have:(if(!s)=true then -(z.natAbs:Int)else(z.natAbs:Int))= -z:=by{rw[i.sg];grind};grind
def A7v(ia:NI h s A n c x)(ib:NI h s' B n' c' y)(hx:ZB m x)(hy:ZB m y)(hm:m<=1000000000)(hK:∀s A n c h',h.le h'->NI h' s A n c (x+y)->K (.agg #[.bool s,.slice A n c]) h'):aG prog 55 #[.agg #[.bool s,.slice A n c],.agg #[.bool s',.slice B n' c']] h K:=by have l:=ia.len hx hm;have p:=ib.len hy hm;refine(fnk func55 (own:=[2,3,4])) ?_;have u:=ia.sg;have t:=ib.sg;refine Br.of (fun e=>?_) (fun e=>?_);{refine A60 ia.mag ib.mag l p ?_;intro A' r c1 j d f i;refine⟨_,_,_,rfl,d,?_⟩;refine U4 i f ?_;intro q k;refine⟨_,_,_,_,rfl,B7 _,hK _ _ _ _ _ d ?_⟩;grind};·refine Vi ia.mag ib.mag o ⟨_,rfl,C1 (fun j=>?_) (fun j=>?_)⟩;{have g:(y.natAbs:Int)<=x.natAbs:=by{omega};refine Td ia.mag ib.mag g l ?_;intro A' r c1 j d f i;refine⟨_,_,_,rfl,d,?_⟩;refine U4 i f ?_;intro q k;refine⟨_,_,_,_,rfl,B7 _,hK _ _ _ _ _ d ?_⟩;grind};·have g:(x.natAbs:Int)<=y.natAbs:=by{omega};refine Td ib.mag ia.mag g p ?_;intro A' r c1 j d f i;refine⟨_,_,_,rfl,d,?_⟩;refine U4 i f ?_;intro q k;refine⟨_,_,_,_,rfl,B7 _,hK _ _ _ _ _ d ?_⟩;grind
def A1p(x y:Int)(p:Nat)(hs:s=decide (x<0))(hs':s'=decide (y<0)):(if(!(s==s'))=true then -(p:Int)else(p:Int))=x.sign*y.sign*p\/x=0\/y=0:=by grind
def A84(x y:Int):x.tdiv y=x.sign*y.sign*((x.natAbs/y.natAbs:Nat):Int):=by have key:∀a b:Nat,(a:Int).tdiv b=(a:Int).sign*(b:Int).sign*((a/b:Nat):Int):=by{intro a b;by_cases c:a=0;{simp_all};grind};obtain⟨a,rfl|rfl⟩:=Int.eq_nat_or_neg x<;>obtain⟨b,rfl|rfl⟩:=Int.eq_nat_or_neg y<;>simp only[Int.neg_tdiv,Int.tdiv_neg,Int.sign_neg,Int.natAbs_neg,aF,key]<;>grind
def Dp{m':Nat}(ia:NI h s A n c x)(ib:NI h s' B n' c' y)(hx:ZB m x)(hy:ZB m' y)(hm:m<=1000000000)(hm':m'<=1000000000)(hK:∀s A n c h',h.le h'->NI h' s A n c (x*y)->K (.agg #[.bool s,.slice A n c]) h'):aG prog 57 #[.agg #[.bool s,.slice A n c],.agg #[.bool s',.slice B n' c']] h K:=by refine(fnk func57 (own:=[2,3,4])) ?_;refine A59 ia.mag ib.mag (ia.len hx hm) (ib.len hy hm') ?_;intro A' l c1 j d f g;refine⟨_,_,_,rfl,d,?_⟩;refine U4 g f ?_;intro k i;refine⟨_,_,_,_,rfl,B7 _,hK _ _ _ _ _ d ?_⟩;have:(if(!(s==s'))=true then -((x.natAbs:Int)*y.natAbs)else(x.natAbs:Int)*y.natAbs)=x*y:=by{rcases A1p x y (x.natAbs*y.natAbs) ia.sg ib.sg with e|e|e;{grind};{grind};grind};grind
def Ts(ia:NI h s A n c x)(ib:NI h s' B n' c' y)(hy0:y≠0)(hx:ZB m x)(hy:ZB m y)(hm:m<=1000000000)(hK:∀s A n c s' B n' c' h',h.le h'->NI h' s A n c (x.tdiv y)->NI h' s' B n' c' (x.tmod y)->K (.tuple #[.agg #[.bool s,.slice A n c],.agg #[.bool s',.slice B n' c']]) h'):aG prog 102 #[.agg #[.bool s,.slice A n c],.agg #[.bool s',.slice B n' c']] h K:=by refine(fnk func102 (os:=[(2,[0,1,2,3,4,5,7,8,9,6,10,11,12])]) (own:=[2,3,4,5])) ?_;refine Vc ia.mag ib.mag o (ia.len hx hm) (ib.len hy hm) ?_;intro A1 z c1 A2 q c2 r d g f M1 M2;refine⟨_,_,_,_,_,_,rfl,?_⟩;refine U4 M1 g ?_;intro w l;refine⟨_,_,_,_,rfl,B7 _,?_⟩;refine U4 M2 f ?_;intro p t;refine⟨_,_,_,_,rfl,B7 _,hK _ _ _ _ _ _ _ _ _ d ?_ ?_⟩;{have:(if(!(s==s'))=true then -((x.natAbs:Int)/y.natAbs)else(x.natAbs:Int)/y.natAbs)=x.tdiv y:=by{rcases A1p x y (x.natAbs/y.natAbs) ia.sg ib.sg with e|e|e;{rw[aQ]at e;rw[e,A84,aQ]};{simp_all};omega};grind};·have:(if s=true then -((x.natAbs:Int)%y.natAbs)else(x.natAbs:Int)%y.natAbs)=x.tmod y:=by{rw[ia.sg];by_cases u:x<0;{obtain⟨k,rfl⟩:∃k:Nat,x= -(k:Int):=⟨x.natAbs,o⟩;rw[Int.neg_tmod,Int.natAbs_neg,aF];congr 1;rw[<- aX o];by_cases i:y<0;{obtain⟨j,rfl⟩:∃j:Nat,y= -(j:Int):=⟨y.natAbs,o⟩;simp_all};grind};·rw[iN gz0];rw[Int.natAbs_of_nonneg o,<- aX o];by_cases i:y<0;{obtain⟨j,rfl⟩:∃j:Nat,y= -(j:Int):=⟨y.natAbs,o⟩;simp_all};grind};grind
end
def S9(n:Nat):Nat:=if n=0 then 0 else Nat.log2 n+1
def A3i:S9 0=0:=rfl
def B2u{n:Nat}(h:n≠0):S9 n=S9 (n/2)+1:=by unfold S9;rw[iN h];by_cases c:n/2=0;{have:n=1:=o;subst this;rfl};·rw[iN c,Nat.log2_def n,iP o]
def Fq{n:Nat}(h:n≠0):2^(S9 n-1)<=n/\n<2^S9 n:=by unfold S9;rw[iN h,Nat.add_sub_cancel];exact⟨Nat.log2_self_le h,Nat.lt_log2_self⟩
def A5x{n k:Nat}(h1:2^k<=n)(h2:n<2^(k+1)):S9 n=k+1:=by have c:n≠0:=o;unfold S9;rw[iN c];have a:=(Nat.le_log2 c).2 h1;have b:=(Nat.log2_lt c).2 h2;omega
def Yi{l t j:Nat}(hl:l<2^j)(ht:t≠0):S9 (l+2^j*t)=j+S9 t:=by obtain⟨a,b⟩:=Fq ht;have c:S9 t=S9 t-1+1:=gz0;rw[c,<- Nat.add_assoc];apply A5x;{rw[Nat.pow_add];have:=aN (2^j) a;omega};·have:=aN (2^j) (show t+1<=2^S9 t from o);grind
def Iy{n k:Nat}(h:n<2^k):S9 n<=k:=by by_cases c:n=0;{subst c;rw[A3i];omega};·unfold S9;rw[iN c];have:=(Nat.log2_lt c).2 h;omega
def A7s{n:Nat}:S9 n=1↔n=1:=by constructor;{intro h;by_cases c:n=0;{subst c;cases h};·have:=Fq c;grind};·rintro rfl;rfl
def A5y{n:Nat}:1<S9 n↔1<n:=by by_cases d:n=0;{subst d;rfl};by_cases c:n=1;{subst c;decide};·have f:S9 n≠0:=by{unfold S9;grind};have g:S9 n≠1:=fun e=>c (A7s.1 e);omega
section
variable {h h':aY} {K:VP} {A B:Option aV} {n c n' c':Nat} {s s':Bool} {x y z:Int} {m:Nat}
def B52(ia:NI h s A n c x)(ib:NI h s' B n' c' y)(hx:ZB m x)(hy:ZB m y)(hm:m<=1000000000)(hK:∀s A n c h',h.le h'->NI h' s A n c (aJ x y)->K (.agg #[.bool s,.slice A n c]) h'):aG prog 100 #[.agg #[.bool s,.slice A n c],.agg #[.bool s',.slice B n' c']] h K:=by
 refine(fnk func100 [(2,[5,6],[],[.slice none 0 0,.slice none 0 0])] (own:=[2,3,4])) ?_;refine⟨fun l e=>∃(A B:Option aV) (n c n' c' X Y:Nat),l=[.slice A n c,.slice B n' c']/\h.le e/\Mg e A n X/\Mg e B n' Y/\n<=c/\n'<=c'/\Nat.gcd X Y=aJ x y/\n<=100000000/\n'<=100000000,fun l e=>match l with|[_,.slice A n _]=>B1i b32 e A n|_=>0,⟨_,_,_,_,_,_,_,_,rfl,B7 h,ia.mag,ib.mag,ia.cap,ib.cap,rfl,ia.len hx hm,ib.len hy hm⟩,?_⟩
 rintro A1 G c1 B1 r c2 e ⟨A1',B1',p,g,f,i,X,Y,N,k,M1,M2,u,F,z,C,t⟩;obtain⟨⟨rfl,rfl,rfl⟩,rfl,rfl,rfl⟩:(A1=A1'/\G=p/\c1=g)/\B1=B1'/\r=f/\c2=i:=gz0;have M:=M2.len_zero dc;refine C1 (fun D=>?_) (fun D=>?_)
 ·have q:Y≠0:=o;refine Vc M1 M2 o C t ?_;intro A3 H c3 A4 O c4 h' d L E M3 M4;have w:=Nat.mod_lt X (Nat.pos_of_ne_zero q);refine⟨_,_,_,_,_,_,rfl,⟨_,_,_,_,_,_,Y,X%Y,rfl,B0 k d,M2.mono d,M4,F,E,?_,t,?_⟩,?_⟩;·rw[<- z,Nat.gcd_comm X Y,Nat.gcd_rec Y X,Nat.gcd_comm]
  ·have:=M4.len_le dc (j:=r) (Int.lt_trans (show((X%Y:Nat):Int)<(Y:Int)from o) (M2.lt dc));omega
  ·simp only[Bt M4,Bt M2];omega
 ·have q:Y=0:=o;refine U4 M1 u ?_;grind
def A3j(i:NI h s A n c z)(hz:ZB m z)(hm:m<=1000000000)(hK:K (I (S9 z.natAbs)) h):aG prog 101 #[.agg #[.bool s,.slice A n c]] h K:=by have T:=i.len hz hm;have w:=i.zero_iff;refine(fnk func101 [(5,[3,4],[],[I 0,U32 0])] (own:=[1])) ?_;refine D5 (fun e=>?_) (fun e=>?_);{have:z=0:=w.1 o;subst this;exact hK};·obtain⟨d,g,G,q,O,hv⟩:=i.mag;obtain⟨k,hk⟩:∃k,d.length=k+1:=⟨d.length-1,o⟩;have L:C4 ((n:Int)-1)=(k:Int):=by{rw[C2 o o];omega};have E:C4 (32*(k:Int))=((32*k:Nat):Int):=by{rw[C2 o o];omega};rw[L,E];refine G.load g o o ?_;have W:=Ci q k;have R:=A1i hk O;have y:32*k+S9 (d.getD k 0).toNat=S9 z.natAbs:=by{have S:=I0 b32 d k;have F:=O5 dc (q.take k);have Q:=D0 dc (q.take k);rw[List.length_take,Nat.min_eq_left o]at F;have X:b32^k=((2^(32*k):Nat):Int):=by{rw[show b32=(2:Int)^32 from dc,<- Int.pow_mul];simp};have p:z.natAbs=(val b32 (d.take k)).toNat+2^(32*k)*(d.getD k 0).toNat:=by{grind};rw[p,Yi o o]};refine⟨fun l r=>∃(t k:Nat),l=[I k,U32 t]/\r=h/\k+S9 t=S9 z.natAbs/\t<4294967296,fun l _=>(iAt l 1).toNat,⟨(d.getD k 0).toNat,32*k,?_,rfl,y,o⟩,?_⟩;{grind};·rintro H u r ⟨t,f,N,rfl,j,B⟩;obtain⟨rfl,rfl⟩:H=(f:Int)/\u=(t:Int):=gz0;have C:S9 z.natAbs<=m:=Iy hz;refine C1 (fun D=>?_) (fun D=>?_);{have p:Int.fdiv (t:Int) (2^(min ((1:Int)).toNat 32))=((t/2:Nat):Int):=by{grind};have V:=B2u (n:=t) o;have M:C4 ((f:Int)+1)=((f+1:Nat):Int):=by{rw[C2 o o];omega};rw[p,M];exact⟨⟨t/2,f+1,rfl,rfl,o,o⟩,by simp only[iAt,aZ,List.getElem?_cons_succ];omega⟩};·have:t=0:=o;subst this;rw[A3i,Nat.add_zero]at j;grind
end
structure QV where
 s:Bool
 A:Option aV
 n:Nat
 c:Nat
 s2:Bool
 A2:Option aV
 n2:Nat
 c2:Nat
abbrev QV.v(w:QV):Value:=.agg #[.bool w.s,.slice w.A w.n w.c,.bool w.s2,.slice w.A2 w.n2 w.c2]
structure NQ (h:aY) (w:QV) (q:Rat):Prop where
 num:NI h w.s w.A w.n w.c q.num
 den:NI h w.s2 w.A2 w.n2 w.c2 (if q.den=1 then 0 else (q.den:Int))
structure Sz (m:Nat) (q:Rat):Prop where
 num:ZB m q.num
 den:ZB m q.den
def Sz.mono{m n:Nat}{q:Rat}(h:Sz m q)(hm:m<=n):Sz n q:=⟨h.num.mono hm,h.den.mono hm⟩
def Sz.neg{m:Nat}{q:Rat}(h:Sz m q):Sz m (-q):=⟨by exact h.num.neg,by exact h.den⟩
def Vd{a b:Int}(hb:b≠0):(aD a b).num.natAbs<=a.natAbs/\(aD a b).den<=b.natAbs:=by rw[Rat.num_divInt,Rat.den_divInt,iN hb];constructor;{have c:(aJ b a:Int)∣b.sign*a:=Int.dvd_mul_of_dvd_right (Int.gcd_dvd_right b a);rw[Int.natAbs_ediv_of_dvd c,Int.natAbs_mul,aF];have:b.sign.natAbs=1:=by{grind};rw[this,Nat.one_mul];exact Nat.div_le_self _ _};·exact Nat.div_le_self _ _
def U3{m:Nat}{a b:Int}(hb:b≠0)(h1:ZB m a)(h2:ZB m b):Sz m (aD a b):=by have:=Vd (a:=a) hb;exact⟨h1.le this.1,h2.le o⟩
def Fv(p q:Rat):p+q=aD (p.num*q.den+q.num*p.den) (p.den*q.den):=by rw[Rat.add_def',<- Int.natCast_mul,aP]
def Jq(p q:Rat):p*q=aD (p.num*q.num) (p.den*q.den):=by rw[Rat.mul_def',<- Int.natCast_mul,aP]
def Qj(z:Int):aD z 1=(z:Rat):=by show aD z ((1:Nat):Int)=_;rw[aP];apply Rat.ext;{rw[Rat.num_mkRat];simp};·rw[Rat.den_mkRat];simp
def den_ne(q:Rat):(q.den:Int)≠0:=by have:=q.den_nz;omega
def A99(p q:Rat):p/q=aD (p.num*q.den) (p.den*q.num):=by rw[Rat.div_def,<- Rat.num_divInt_den p,<- Rat.num_divInt_den q,Rat.inv_divInt,Rat.divInt_mul_divInt];simp_all
def Sz.add{m n:Nat}{p q:Rat}(hp:Sz m p)(hq:Sz n q):Sz (m+n+1) (p+q):=by rw[Fv];refine U3 (aH (den_ne p) (den_ne q)) ?_ ((hp.den.mul hq.den).mono o);exact(hp.num.mul hq.den).add ((hq.num.mul hp.den).mono o)
def Sz.sub{m n:Nat}{p q:Rat}(hp:Sz m p)(hq:Sz n q):Sz (m+n+1) (p-q):=by rw[Rat.sub_eq_add_neg];exact hp.add hq.neg
def Sz.mul{m n:Nat}{p q:Rat}(hp:Sz m p)(hq:Sz n q):Sz (m+n) (p*q):=by rw[Jq];exact U3 (aH (den_ne p) (den_ne q)) (hp.num.mul hq.num) (hp.den.mul hq.den)
def Sz.zero{m:Nat}(hm:1<=m):Sz m 0:=⟨ZB.zero,ZB.one hm⟩
def Sz.inv{m:Nat}{q:Rat}(h:Sz m q)(hm:1<=m):Sz m q⁻¹:=by constructor;{rw[Rat.num_inv];refine h.den.le ?_;grind};·rw[Rat.den_inv];split;{exact ZB.one hm};·have:=h.num;assumption
def Sz.div{m n:Nat}{p q:Rat}(hp:Sz m p)(hq:Sz n q)(hn:1<=n):Sz (m+n) (p/q):=by exact hp.mul (hq.inv hn)
def Sz.int{m:Nat}{z:Int}(h:ZB m z)(hm:1<=m):Sz m (z:Rat):=⟨by assumption,by simpa using ZB.one hm⟩
section
variable {h h':aY} {K:VP} {A B:Option aV} {n c n' c':Nat} {s s':Bool} {x y z:Int} {m:Nat} {p q:Rat} {a b w:QV}
def NQ.mono(hl:h.le h')(i:NQ h w q):NQ h' w q:=⟨i.num.mono hl,i.den.mono hl⟩
def NQ.whole(i:NI h s A n c z){B:Option aV}:NQ h ⟨s,A,n,c,false,B,0,0⟩ (z:Rat):=⟨by assumption,by simpa using NI.nil⟩
def NQ.den_zero(i:NQ h w q):w.n2=0↔q.den=1:=by rw[i.den.zero_iff];have:=q.den_nz;omega
def NQ.zero:NQ h ⟨false,none,0,0,false,none,0,0⟩ 0:=⟨NI.nil,NI.nil⟩
def Bn(i:NQ h w q)(hK:∀s A n c h',h.le h'->NI h' s A n c q.den->K (.agg #[.bool s,.slice A n c]) h'):aG prog 58 #[w.v] h K:=by refine(fnk func58 (own:=[1,2])) ?_;have f:=i.den_zero;refine D5 (fun e=>?_) (fun e=>?_);{refine Z5 dc ?_;grind};·have d:=i.den;rw[iN (fun g=>e o)]at d;exact hK _ _ _ _ _ (B7 h) d
def Iq(ix:NI h s A n c x)(iy:NI h s' B n' c' y)(hy0:y≠0)(hx:ZB m x)(hy:ZB m y)(hm:m<=1000000000)(hK:∀w h',h.le h'->NQ h' w (aD x y)->K w.v h'):aG prog 56 #[.agg #[.bool s,.slice A n c],.agg #[.bool s',.slice B n' c']] h K:=by refine(fnk func56 (cs:=[(3,[],[(2,2),(3,2)],[.bool false,.slice none 0 0,.bool false,.slice none 0 0]),(7,[],[(2,2),(3,2)],[.bool false,.slice none 0 0,.bool false,.slice none 0 0]),(9,[],[(3,2)],[.bool false,.slice none 0 0])]) (os:=[(2,[0,2,1,3,4,5])]) (own:=[2,3,4,5])) ?_;refine⟨fun l k=>∃s A n c s' B n' c' f d,l=[.bool s,.slice A n c,.bool s',.slice B n' c']/\h.le k/\NI k s A n c f/\NI k s' B n' c' d/\0<d/\aD f d=aD x y/\ZB m f/\ZB m d,Br.of (fun e=>?_) (fun e=>?_),?_⟩;{have aj:y<0:=by{have:=iy.sg;grind};refine Zp ix ?_;intro s1 D;refine⟨_,_,_,_,rfl,B7 h,?_⟩;refine Zp iy ?_;intro s2 z;exact⟨_,_,_,_,rfl,B7 h,_,_,_,_,_,_,_,_,-x,-y,rfl,B7 h,D,z,o,Rat.neg_divInt_neg x y,hx.neg,hy.neg⟩};{have i:0<y:=by{have:=iy.sg;grind};exact⟨_,_,_,_,_,_,_,_,x,y,rfl,B7 h,ix,iy,i,rfl,hx,hy⟩};rintro s1 A1 n1 c1 s2 A2 n2 c2 am ⟨L,A1',af,Q,R,A2',N,W,f,d,hl,E,D,z,i,hq,u,p⟩;obtain⟨rfl,⟨rfl,rfl,rfl⟩,rfl,rfl,rfl,rfl⟩:s1=L/\(A1=A1'/\n1=af/\c1=Q)/\s2=R/\A2=A2'/\n2=N/\c2=W:=gz0;refine B52 D z u p hm ?_;intro s3 A3 n3 c3 h3 t i3;refine⟨_,_,_,_,rfl,?_⟩;rw[<- hq]at hK;generalize hqq:aD f d=q at *;have g:q.num=f/(aJ f d:Int):=by{rw[<- hqq,Rat.num_divInt,Int.sign_eq_one_of_pos i,Int.one_mul,Int.gcd_comm]};have j:(q.den:Int)=d/(aJ f d:Int):=by{rw[<- hqq,Rat.den_divInt,iN o,Int.gcd_comm,aQ,Int.natAbs_of_nonneg o]};have al:0<aJ f d:=Int.gcd_pos_of_ne_zero_right f o;have r:ZB m (aJ f d:Int):=by{refine p.le ?_;exact Nat.le_of_dvd o (by have:=Int.gcd_dvd_right f d;exact Int.ofNat_dvd_left.1 this)};refine⟨fun l k=>∃s A n c s' B n' c',l=[.bool s,.slice A n c,.bool s',.slice B n' c']/\h.le k/\NI k s A n c q.num/\NI k s' B n' c' q.den,?_,?_⟩;{refine A3j i3 r hm ⟨_,rfl,?_⟩;rw[aF];refine C1 (fun e=>?_) (fun e=>?_);{refine Ts (D.mono t) i3 o u r hm ?_;intro M A4 S c4 s5 A5 n5 c5 h4 l4 F _;refine⟨_,_,_,_,_,_,_,_,rfl,?_⟩;refine Ts ((z.mono t).mono l4) (i3.mono l4) o p r hm ?_;intro H A6 n6 c6 s7 A7 n7 c7 h5 l5 G _;have e1:f.tdiv (aJ f d:Int)=q.num:=by{rw[g,Int.tdiv_eq_ediv_of_dvd (Int.gcd_dvd_left f d)]};have e2:d.tdiv (aJ f d:Int)=q.den:=gz0;rw[e1]at F;rw[e2]at G;exact⟨_,_,_,_,_,_,_,_,rfl,_,_,_,_,_,_,_,_,rfl,B0 E (B0 t (B0 l4 l5)),F.mono l5,G⟩};·have hg:aJ f d=1:=by{have:¬1<S9 (aJ f d):=o;rw[A5y]at this;omega};rw[hg]at g j;simp at g j;exact⟨_,_,_,_,_,_,_,_,rfl,B0 E t,by rw[g];exact D.mono t,by rw[j];exact z.mono t⟩};rintro M A4 S c4 s5 A5 n5 c5 ae ⟨X,A4',ag,O,V,A5',ah,ad,ak,C,F,i5⟩;obtain⟨rfl,⟨rfl,rfl,rfl⟩,rfl,rfl,rfl,rfl⟩:M=X/\(A4=A4'/\S=ag/\c4=O)/\s5=V/\A5=A5'/\n5=ah/\c5=ad:=gz0;have aa:ZB m (q.den:Int):=by{refine p.le ?_;have:=(Vd (a:=f) (b:=d) o).2;grind};refine⟨fun l k=>∃s' B n' c',l=[.bool s',.slice B n' c']/\k=ae/\NI k s' B n' c' (if q.den=1 then 0 else(q.den:Int)),?_,?_⟩;{refine A3j i5 aa hm ⟨_,rfl,?_⟩;rw[aF];refine D5 (fun e=>?_) (fun e=>?_);{have:q.den=1:=A7s.1 o;exact⟨_,_,_,_,rfl,rfl,by rw[iP this];exact NI.nil⟩};·have:¬q.den=1:=fun e1=>e (by rw[e1];rfl);grind};rintro H A6 n6 c6 ao ⟨ai,A6',T,ac,an,rfl,G⟩;obtain⟨rfl,rfl,rfl,rfl⟩:H=ai/\A6=A6'/\n6=T/\c6=ac:=gz0;exact hK ⟨M,A4,S,c4,H,A6,n6,c6⟩ _ C ⟨F,G⟩
def Ao(hz: -9223372036854775808<=z/\z<=9223372036854775807)(hK:∀w h',h.le h'->NQ h' w (z:Rat)->K w.v h'):aG prog 38 #[I z] h K:=by refine(fnk func38 (own:=[2])) ?_;refine Z5 hz ?_;intro s A n c f e d;exact⟨_,_,_,_,rfl,hK ⟨s,A,n,c,false,none,0,0⟩ _ e (NQ.whole d)⟩
def S2(i:NQ h w q)(hK:K (I q.num.sign) h):aG prog 19 #[w.v] h K:=by refine(fnk func19 (own:=[1])) ?_;exact B0d i.num ⟨_,rfl,hK⟩
def Nk(i:NQ h w q)(hK:∀w,NQ h w (-q)->K w.v h):aG prog 40 #[w.v] h K:=by refine(fnk func40 (os:=[(1,[0,1,3,4,2,5,6])]) (own:=[1,2])) ?_;refine Zp i.num ?_;intro e d;exact⟨_,_,_,_,rfl,B7 h,hK ⟨e,w.A,w.n,w.c,w.s2,w.A2,w.n2,w.c2⟩ ⟨d,i.den⟩⟩
def T6(ia:NQ h a p)(ib:NQ h b q)(hp:Sz m p)(hq:Sz m q)(hm:m<=400000000)(hK:∀w h',h.le h'->NQ h' w (p+q)->K w.v h'):aG prog 12 #[a.v,b.v] h K:=by have S:=ia.den_zero;have Q:=ib.den_zero;refine(fnk func12 (cs:=[(2,[16],[],[.bool false])]) (os:=[(3,[0,1,2,5,6,7,11,13,3,4,8,9,10,12,14,15,16,17])]) (own:=[2,3,4])) ?_;refine⟨fun l h'=>l=[.bool (decide (p.den=1/\q.den=1))]/\h'=h,D5 (fun e=>?_) (fun e=>?_),?_⟩;{refine⟨?_,rfl⟩;have:((b.n2:Int)==0)=decide (p.den=1/\q.den=1):=by{grind};rw[this]};{grind};rintro t G ⟨hl,rfl⟩;obtain rfl:t=decide (p.den=1/\q.den=1):=gz0;have f:=hp.num;have c:=hp.den;have g:=hq.num;have d:=hq.den;refine C1 (fun e=>?_) (fun e=>?_);{refine A7v ia.num ib.num f g o ?_;intro D A1 F c1 O j z;refine⟨_,_,_,_,rfl,hK ⟨D,A1,F,c1,false,none,0,0⟩ _ j ?_⟩;have:p+q=((p.num+q.num:Int):Rat):=by{rw[Fv,e.1,e.2];show aD (p.num*1+q.num*1) (1*1)=_;rw[aS,aS,aS,Qj]};rw[this];exact NQ.whole z};·refine Bn ib ?_;intro D A1 F c1 O j z;refine⟨_,_,_,_,rfl,j,?_⟩;refine Dp (ia.num.mono j) z f d o o ?_;intro s2 A2 n2 c2 h2 A H;refine⟨_,_,_,_,rfl,A,?_⟩;refine Bn (ia.mono (B0 j A)) ?_;intro s3 A3 n3 c3 h3 u R;refine⟨_,_,_,_,rfl,u,?_⟩;have k:=B0 j (B0 A u);refine Dp (ib.num.mono k) R g c o o ?_;intro X A4 n4 c4 h4 y T;refine⟨_,_,_,_,rfl,y,?_⟩;refine A7v (H.mono (B0 u y)) T (f.mul d) (g.mul c) o ?_;intro s5 A5 n5 c5 h5 B M;refine⟨_,_,_,_,rfl,B,?_⟩;have i:=B0 k (B0 y B);refine Bn (ia.mono i) ?_;intro W A6 n6 c6 h6 r V;refine⟨_,_,_,_,rfl,r,?_⟩;refine Bn (ib.mono (B0 i r)) ?_;intro s7 A7 n7 c7 h7 n N;refine⟨_,_,_,_,rfl,n,?_⟩;refine Dp (V.mono n) N c d o o ?_;intro s8 A8 n8 c8 h8 s L;refine⟨_,_,_,_,rfl,s,?_⟩;refine Iq (m:=m+m+1) (M.mono (B0 r (B0 n s))) L (aH (den_ne p) (den_ne q)) ((f.mul d).add (g.mul c)) ((c.mul d).mono o) o ?_;intro w h9 E C;rw[<- Fv]at C;exact⟨_,_,_,_,_,_,_,_,rfl,E,hK w _ (B0 i (B0 r (B0 n (B0 s E)))) C⟩
def A1r(ia:NQ h a p)(ib:NQ h b q)(hp:Sz m p)(hq:Sz m q)(hm:m<=400000000)(hK:∀w h',h.le h'->NQ h' w (p-q)->K w.v h'):aG prog 69 #[a.v,b.v] h K:=by refine(fnk func69 (own:=[2,3,4])) ?_;refine Nk ib ?_;intro w i;refine⟨_,_,_,_,_,_,_,_,rfl,B7 h,?_⟩;refine T6 ia i hp hq.neg hm ?_;grind
def K9(ia:NQ h a p)(ib:NQ h b q)(hp:Sz m p)(hq:Sz m q)(hm:m<=400000000)(hK:∀w h',h.le h'->NQ h' w (p*q)->K w.v h'):aG prog 65 #[a.v,b.v] h K:=by have F:=ia.den_zero;have D:=ib.den_zero;refine(fnk func65 (cs:=[(2,[16],[],[.bool false])]) (os:=[(3,[0,1,2,3,5,7,4,6,8,9,10,11])]) (own:=[2,3,4])) ?_;refine⟨fun l h'=>l=[.bool (decide (p.den=1/\q.den=1))]/\h'=h,D5 (fun e=>?_) (fun e=>?_),?_⟩;{refine⟨?_,rfl⟩;have:((b.n2:Int)==0)=decide (p.den=1/\q.den=1):=by{grind};rw[this]};{grind};rintro t A ⟨R,rfl⟩;obtain rfl:t=decide (p.den=1/\q.den=1):=gz0;have c:=hp.num;have g:=hp.den;have d:=hq.num;have i:=hq.den;refine C1 (fun e=>?_) (fun e=>?_);{refine Dp ia.num ib.num c d o o ?_;intro u A1 z c1 C f r;refine⟨_,_,_,_,rfl,hK ⟨u,A1,z,c1,false,none,0,0⟩ _ f ?_⟩;have:p*q=((p.num*q.num:Int):Rat):=by{rw[Jq,e.1,e.2];show aD (p.num*q.num) (1*1)=_;rw[aS,Qj]};rw[this];exact NQ.whole r};·refine Dp ia.num ib.num c d o o ?_;intro u A1 z c1 C f r;refine⟨_,_,_,_,rfl,f,?_⟩;refine Bn (ia.mono f) ?_;intro O A2 W c2 L k B;refine⟨_,_,_,_,rfl,k,?_⟩;refine Bn (ib.mono (B0 f k)) ?_;intro T A3 M c3 S j E;refine⟨_,_,_,_,rfl,j,?_⟩;refine Dp (B.mono j) E g i o o ?_;intro H A4 N c4 Q n G;refine⟨_,_,_,_,rfl,n,?_⟩;refine Iq (m:=m+m) (r.mono (B0 k (B0 j n))) G (aH (den_ne p) (den_ne q)) (c.mul d) (g.mul i) o ?_;intro w V y s;rw[<- Jq]at s;exact⟨_,_,_,_,_,_,_,_,rfl,y,hK w _ (B0 f (B0 k (B0 j (B0 n y)))) s⟩
def A1w(ia:NQ h a p)(ib:NQ h b q)(hp:Sz m p)(hq:Sz m q)(hm:m<=400000000)(hK:∀w h',h.le h'->NQ h' w (p/q)->K w.v h'):aG prog 127 #[a.v,b.v] h K:=by refine(fnk func127 (os:=[(3,[0,1,2,5,7,8,3,4,6,9,10,11])]) (own:=[2,3,4])) ?_;have d:=hp.num;have f:=hp.den;have i:=hq.num;have g:=hq.den;refine S2 ib ⟨_,rfl,D5 (fun e=>?_) (fun e=>?_)⟩;{have y:q=0:=Rat.num_eq_zero.1 (Int.sign_eq_zero_iff_zero.1 e);have:=hK ⟨false,none,0,0,false,none,0,0⟩ h (B7 h) (by rw[y,Rat.div_def,Rat.inv_zero,Rat.mul_zero];exact NQ.zero);exact this};·have r:q.num≠0:=fun R=>e gz0;refine Bn ib ?_;intro M A1 S c1 L j B;refine⟨_,_,_,_,rfl,j,?_⟩;refine Dp (ia.num.mono j) B d g o o ?_;intro G A2 T c2 D n u;refine⟨_,_,_,_,rfl,n,?_⟩;refine Bn (ia.mono (B0 j n)) ?_;intro O A3 E c3 N k z;refine⟨_,_,_,_,rfl,k,?_⟩;have c:=B0 j (B0 n k);refine Dp z (ib.num.mono c) f i o o ?_;intro C A4 F c4 H l A;refine⟨_,_,_,_,rfl,l,?_⟩;refine Iq (m:=m+m) (u.mono (B0 k l)) A (aH (den_ne p) r) (d.mul g) (f.mul i) o ?_;intro w Q t s;rw[<- A99]at s;exact⟨_,_,_,_,_,_,_,_,rfl,t,hK w _ (B0 c (B0 l t)) s⟩
end
def dch(d:Nat):UInt8:=UInt8.ofNat (48+d)
def Fo{d:Nat}(h:d<10):(dch d).toNat=48+d:=by unfold dch;rw[UInt8.toNat_ofNat'];omega
def N7(c:UInt8):Prop:=48<=c.toNat/\c.toNat<=57
instance (c:UInt8):Decidable (N7 c):=by unfold N7;infer_instance
def B9i{d:Nat}(h:d<10):N7 (dch d):=by unfold N7;rw[Fo h];omega
def B75{c:UInt8}(h:N7 c):dch (c.toNat-48)=c:=by unfold N7 at h;apply UInt8.toNat_inj.1;rw[Fo o];omega
def dd(n:Nat):List UInt8:=if _h:n=0 then []else dd (n/10)++[dch (n%10)]
def O4:dd 0=[]:=by unfold dd;simp
def Fn{n:Nat}(h:n≠0):dd n=dd (n/10)++[dch (n%10)]:=by rw[dd];simp[h]
def U7(l:List UInt8):Nat:=l.foldl (fun a c=>10*a+(c.toNat-48)) 0
def Om(l:List UInt8)(c:UInt8):U7 (l++[c])=10*U7 l+(c.toNat-48):=by simp[U7]
def B9a(l:List UInt8):∀a,l.foldl (fun a c=>10*a+(c.toNat-48)) a=a*10^l.length+U7 l:=by
 induction l with
 |nil=>intro a;simp[U7]
 |cons c l ih=>
  intro a;unfold U7;rw[List.foldl_cons,List.foldl_cons,ih,ih,List.length_cons,aI];grind
def Ls(a b:List UInt8):U7 (a++b)=U7 a*10^b.length+U7 b:=by unfold U7;rw[List.foldl_append,B9a b];rfl
def B2d(c:UInt8)(l:List UInt8):U7 (c::l)=(c.toNat-48)*10^l.length+U7 l:=by rw[<- List.singleton_append,Ls];simp[U7]
def Lr{l:List UInt8}(h:∀c∈l,N7 c):U7 l<10^l.length:=by
 induction l with
 |nil=>simp[U7]
 |cons c l ih=>
  have f:=ih fun x e=>h x (by simp[e]);have d:=h c (by simp);unfold N7 at d;rw[B2d,List.length_cons,aI];have:(c.toNat-48)*10^l.length<=9*10^l.length:=Nat.mul_le_mul_right _ o;omega
def B9b(n:Nat):U7 (dd n)=n:=by
 induction n using aU with
 |_ n ih=>
  by_cases h:n=0;·subst h;rw[O4];rfl
  ·rw[Fn h,Om,ih _ o,Fo o];omega
def C2v(n:Nat):∀c∈dd n,N7 c:=by
 induction n using aU with
 |_ n ih=>
  by_cases h:n=0;·subst h;rw[O4];simp
  ·rw[Fn h];intro c e;rcases List.mem_append.1 e with d|d;·exact ih _ o c d
   ·rw[List.mem_singleton.1 d];exact B9i o
def B5g{n:Nat}(h:n≠0):dd n≠[]:=by rw[Fn h];simp
def B2l(n:Nat)(h:n≠0):(dd n).head? ≠ some 48:=by
 induction n using aU with
 |_ n ih=>
  rw[Fn h];by_cases f:n/10=0
  ·rw[f,O4];simp only[List.nil_append,List.head?_cons,ne_eq,Option.some.injEq];intro e;have:=Fo (d:=n%10) o;rw[e]at this;simp at this;omega
  ·have:=ih _ o f;obtain⟨c,r,e⟩:=aW (B5g f);rw[e]at this ⊢;simpa using this
def B2m{l:List UInt8}(h:∀c∈l,N7 c)(h0:l.head? ≠ some 48):dd (U7 l)=l:=by
 obtain⟨n,j⟩:∃n,l.length=n:=⟨_,rfl⟩
 induction n generalizing l with
 |zero=>rw[aR j];exact O4
 |succ n ih=>
  obtain⟨m,c,rfl⟩:∃m c,l=m++[c]:=by
   refine⟨l.dropLast,l.getLast (by rintro rfl;simp at j),?_⟩;rw[List.dropLast_concat_getLast]
  have i:=h c (by simp);have g:=i;unfold N7 at g;rw[Om]
  cases m with
  |nil=>
   simp at h0
   have q:c.toNat-48≠0:=by
    intro e;apply h0;apply UInt8.toNat_inj.1;show c.toNat=48;omega
   rw[Fn (by simp[U7];omega)];simp only[U7,List.foldl_nil,List.nil_append];rw[show(10*0+(c.toNat-48))/10=0 from o,O4,show(10*0+(c.toNat-48))%10=c.toNat-48 from o,B75 i];rfl
  |cons d m=>
   have f:=ih (l:=d::m) (fun x p=>h x (by simp at p ⊢;rcases p with h|h<;>simp[h])) (by simpa using h0) (by simpa using j)
   have k:U7 (d::m)≠0:=by
    intro e;rw[e,O4]at f;cases f
   rw[Fn o,show(10*U7 (d::m)+(c.toNat-48))/10=U7 (d::m)from o,f,show(10*U7 (d::m)+(c.toNat-48))%10=c.toNat-48 from o,B75 i]
def U1{n k:Nat}:(dd n).length<=k↔n<10^k:=by
 induction k generalizing n with
 |zero=>
  constructor
  ·intro h;have:dd n=[]:=aR o;by_cases c:n=0;·subst c;decide
   ·exact absurd this (B5g c)
  ·intro h;have:n=0:=by simp at h;exact h
   subst this;rw[O4];simp
 |succ k ih=>
  by_cases c:n=0;·subst c;rw[O4];simp[aK]
  ·rw[Fn c,aO,List.length_singleton,Nat.add_le_add_iff_right,ih,aI];omega
def pad(w n:Nat):List UInt8:=List.replicate (w-(dd n).length) 48++dd n
def A71(n:Nat):pad 0 n=dd n:=by simp[pad]
def Xq{w n:Nat}(h:n<10^w):(pad w n).length=w:=by have:=U1.2 h;simp[pad];omega
def Si(w n:Nat):pad (w+1) n=pad w (n/10)++[dch (n%10)]:=by unfold pad;by_cases h:n=0;{subst h;rw[O4];simp only[List.length_nil,Nat.sub_zero,List.append_nil,Nat.zero_mod];rw[List.replicate_succ'];rfl};·rw[Fn h,aO,List.length_singleton,Nat.add_sub_add_right,aL]
def C2u{h l k:Nat}(h0:h≠0)(hl:l<10^k):dd (h*10^k+l)=dd h++pad k l:=by
 induction k generalizing l with
 |zero=>
  have:l=0:=by simpa using hl
  subst this;simp[pad,O4]
 |succ k ih=>
  have f:0<10^k:=aK dc
  have c:h*10^(k+1)+l≠0:=by
   have:0<h*10^(k+1):=Nat.mul_pos o (aK dc);omega
  have e:(h*10^(k+1)+l)/10=h*10^k+l/10:=by
   rw[aI,<- Nat.mul_assoc];omega
  have d:(h*10^(k+1)+l)%10=l%10:=by
   rw[aI,<- Nat.mul_assoc];omega
  rw[Fn c,e,d,ih (by rw[aI]at hl;omega),Si,aL]
def A29{w h l k:Nat}(hl:l<10^k)(hw:h≠0\/k<=w):pad w (h*10^k+l)=pad (w-k) h++pad k l:=by by_cases d:h=0;{subst d;have f:k<=w:=by{rcases hw with h|h;{exact absurd rfl h};·exact h};have:=U1.2 hl;unfold pad;rw[O4];simp only[Nat.zero_mul,Nat.zero_add,List.length_nil,Nat.sub_zero,List.append_nil,<- aL,List.replicate_append_replicate];congr 2;omega};·have e:=C2u d hl;have c:=Xq hl;unfold pad at c;unfold pad at e ⊢;rw[e,aO,c,<- aL];congr 3;omega
def V7(n:Nat):List UInt8:=if n=0 then [48]else dd n
def Dw{n:Nat}(h:n≠0):V7 n=dd n:=by simp[V7,h]
def On(n:Nat):U7 (V7 n)=n:=by unfold V7;split;{rename_i h;subst h;rfl};·exact B9b n
def A7n(n:Nat):∀c∈V7 n,N7 c:=by unfold V7;split;{intro c d;rw[List.mem_singleton.1 d];decide};·exact C2v n
def A5r(n:Nat):V7 n≠[]:=by unfold V7;split;{simp};·rename_i h;exact B5g h
def B5f{a b:Nat}(h:V7 a=V7 b):a=b:=by rw[<- On a,h,On]
def Oq{l:List UInt8}(h:∀c∈l,N7 c)(hn:l≠[])(h0:l.head? ≠ some 48\/l=[48]):V7 (U7 l)=l:=by rcases h0 with h0|h0;{have:=B2m h h0;rw[Dw,this];intro e;rw[e,O4]at this;exact hn this.symm};·subst h0;rfl
def Oo{n k:Nat}(hk:0<k):(V7 n).length<=k↔n<10^k:=by by_cases h:n=0;{subst h;have:0<10^k:=aK dc;simp[V7];omega};·rw[Dw h];exact U1
def Qy(z:Int):List UInt8:=if z<0 then 45::V7 z.natAbs else V7 z.natAbs
def F3(q:Rat):List UInt8:=Qy q.num++(if q.den=1 then []else 47::V7 q.den)
structure Form (s:List UInt8) (neg:Bool) (a b:List UInt8):Prop where
 eq:s=(if neg then [45] else [])++a++(if b=[] then [] else 47::b)
 da:∀ c∈a,N7 c
 db:∀ c∈b,N7 c
 ne:a≠[]
 ha:a.head? ≠ some 48\/(a=[48]/\neg=false/\b=[])
 hb:b.head? ≠ some 48
 b1:b≠[49]
def B50{c:UInt8}(h:N7 c):c≠45/\c≠47:=by unfold N7 at h;constructor<;>(rintro rfl;grind)
def Gj{a r:List UInt8}(h:∀c∈a,N7 c)(hr:∀c,r.head? = some c->¬N7 c):(a++r).takeWhile (fun c=>decide (N7 c))=a/\(a++r).dropWhile (fun c=>decide (N7 c))=r:=by
 induction a with
 |nil=>
  cases r with
  |nil=>simp
  |cons c r=>
   simp_all
 |cons c a ih=>
  simp_all
def Form.head{s:List UInt8}{neg:Bool}{a b:List UInt8}(f:Form s neg a b):neg=(s.head? == some 45):=by obtain⟨c,r,e⟩:=aW f.ne;have d:=(B50 (f.da c (by simp[e]))).1;rw[f.eq,e];grind
def Form.unique{s:List UInt8}{neg neg':Bool}{a b a' b':List UInt8}(f:Form s neg a b)(g:Form s neg' a' b'):neg=neg'/\a=a'/\b=b':=by have l:neg=neg':=by{rw[f.head,g.head]};have e:=f.eq.symm.trans g.eq;have i:∀b:List UInt8,∀c,(if b=[]then []else 47::b:List UInt8).head? = some c->¬N7 c:=by{intro b c d;split at d;{grind};·simp at d;subst d;decide};have k:=Gj f.da (i b);have j:=Gj g.da (i b');grind
def Vf{q:Rat}(h:q.num=0):q.den=1:=by simp_all
def Ig(q:Rat):Form (F3 q) (decide (q.num<0)) (V7 q.num.natAbs) (if q.den=1 then []else V7 q.den):=by constructor;{unfold F3 Qy;by_cases c:q.num<0<;>by_cases d:q.den=1<;>simp[c,d,A5r]};{exact A7n _};{split;{simp};·exact A7n _};{exact A5r _};{by_cases h:q.num=0;{right;rw[Vf h,h];simp[V7]};·left;rw[Dw o];exact B2l _ o};{split;{simp};·rw[Dw q.den_nz];exact B2l _ q.den_nz};·split;{simp};·rename_i h;intro e;have f:V7 q.den=V7 1:=by{rw[e];simp[V7,Fn,O4,dch]};exact h (B5f f)
def We(neg:Bool)(a:List UInt8):Int:=if neg then -(U7 a:Int)else U7 a
def Pf(b:List UInt8):Nat:=if b=[]then 1 else U7 b
def Va{b:List UInt8}(h:∀c∈b,N7 c)(hn:b≠[])(h0:b.head? ≠ some 48):U7 b≠0:=by intro e;have:=B2m h h0;rw[e,O4]at this;grind
def Form.den_ne{s:List UInt8}{neg:Bool}{a b:List UInt8}(f:Form s neg a b):Pf b≠0:=by unfold Pf;split;{decide};·rename_i h;exact Va f.db h f.hb
def Form.txt{s:List UInt8}{neg:Bool}{a b:List UInt8}(f:Form s neg a b){q:Rat}(h1:q.num=We neg a)(h2:q.den=Pf b):s=F3 q:=by have k:V7 (U7 a)=a:=Oq f.da f.ne (f.ha.imp id fun h=>h.1);have d:(We neg a).natAbs=U7 a:=by{unfold We;omega};have c:(We neg a<0)↔neg=true:=by{unfold We;cases neg;{simp};·simp only[if_true];constructor;{grind};·intro _;have:U7 a≠0:=by{rcases f.ha with h|h;{exact Va f.da f.ne h};grind};omega};have j:(Pf b=1)↔b=[]:=by{unfold Pf;split;{grind};·rename_i h;constructor;{intro e;exfalso;have g:=Oq f.db h (Or.inl f.hb);rw[e]at g;apply f.b1;rw[<- g];simp[V7,Fn,O4,dch]};grind};rw[f.eq];unfold F3 Qy;by_cases i:b=[];{grind};·have l:V7 (Pf b)=b:=by{unfold Pf;rw[iN i];exact Oq f.db i (Or.inl f.hb)};grind
def Form.of_txt{s:List UInt8}{neg:Bool}{a b:List UInt8}(f:Form s neg a b){q:Rat}(e:s=F3 q):q.num=We neg a/\q.den=Pf b:=by subst e;obtain⟨g,d,c⟩:=f.unique (Ig q);subst g d c;constructor;{unfold We;rw[On];grind};·unfold Pf;by_cases h:q.den=1;{simp[h]};·simp[h,A5r,On]
def A6a{p q:Rat}(e:F3 p=F3 q):p=q:=by have f:=Ig p;have c:=f.of_txt rfl;have d:=f.of_txt e;exact Rat.ext (c.1.trans d.1.symm) (c.2.trans d.2.symm)
def IsNum(s:List UInt8):Prop:=∃q,s=F3 q
def Form.isNum{s:List UInt8}{neg:Bool}{a b:List UInt8}(f:Form s neg a b):IsNum s↔Nat.gcd (U7 a) (Pf b)=1:=by have c:(We neg a).natAbs=U7 a:=by{unfold We;omega};constructor;{rintro⟨q,e⟩;have:=f.of_txt e;have d:=q.reduced;grind};·intro h;exact⟨⟨We neg a,Pf b,f.den_ne,gz0⟩,f.txt rfl rfl⟩
def IsNum.form{s:List UInt8}(h:IsNum s):∃neg a b,Form s neg a b:=by obtain⟨q,rfl⟩:=h;exact⟨_,_,_,Ig q⟩
def B47(s:List UInt8):Rat:=
 let neg:=s.head? == some 45
 let t:=if neg then s.drop 1 else s
 mkRat (We neg (t.takeWhile fun c=>decide (N7 c))) (Pf ((t.dropWhile fun c=>decide (N7 c)).drop 1))
def rv(s:List UInt8):Rat:=if F3 (B47 s)=s then B47 s else 0
def H2(q:Rat):rv (F3 q)=q:=by have f:=Ig q;have l:=f.head;have g:∀b:List UInt8,∀c,(if b=[]then []else 47::b:List UInt8).head? = some c->¬N7 c:=by{intro b c d;split at d;{grind};·simp at d;subst d;decide};have e:B47 (F3 q)=q:=by{unfold B47;simp only[<- l];generalize hb:(if q.den=1 then []else V7 q.den)=b at f;have k:(if decide (q.num<0)=true then(F3 q).drop 1 else F3 q)=V7 q.num.natAbs++(if b=[]then []else 47::b):=by{rw[f.eq];grind};rw[k,(Gj f.da (g b)).1,(Gj f.da (g b)).2];have i:=f.of_txt rfl;have j:(if b=[]then []else 47::b:List UInt8).drop 1=b:=by{grind};rw[j,<- i.1,<- i.2,Rat.mkRat_self]};unfold rv;grind
def B68{s:List UInt8}(h:¬IsNum s):rv s=0:=by unfold rv;rw[iN (fun e=>h ⟨_,e.symm⟩)]
