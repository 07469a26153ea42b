/-
  Texts of this proof, merged by a program of ours.
-/
import Derived.Test.YtajkakhfcokljaaGreatDoorG31
import Derived.Test.YtajkakhfcokljaaGreatDoorG32
import Derived.Test.YtajkakhfcokljaaGreatDoorG22
import Derived.Deep.Strs
open Go.Proofs.Tryz
set_option linter.all false
open _root_.Go.Addr renaming add->B8n
open Classical renaming byContradiction->B8h
open _root_.Go.Instr renaming storeAt->B90
open Int renaming natCast_mul->B8p,tmod->B8w
open List renaming getElem?_eq_getElem->B8i,getElem?_set_self->B8k,length_append->B8l,getElem?_set_ne->B8m,getElem?_append_right->B8t,replicate->B8u,getElem?_append_left->B8v
open List.cons renaming injEq->B95
open Nat renaming mul_le_mul->B8g,le_refl->B8j,zero_add->B8o,mod_eq_zero_of_dvd->B8q,mod_lt->B8r,mod_eq_of_lt->B8x,dvd_of_mod_eq_zero->B8y,le_trans->B8z,mul_comm->B91,mul_mod->B94
open Option.some renaming inj->B8s
open Rat renaming intCast_mul->B93
open _root_.Go.Value.int renaming injEq->B92
namespace Go.Proofs.YtajkakhfcokljaaGreatDoor
set_option maxRecDepth 20000
open Go
theorem B0d{p d:Nat}(hp:2<=p)(hd:∀ e,1<e->e<d->¬ e∣p)(hlt:p<d*d):Prm p:=by
 refine ⟨hp,fun e h1 h2 hdv=>?_⟩
 by_cases c:e<d
 ·exact hd e h1 c hdv
 ·obtain ⟨f,hf⟩:=hdv
  have hf1:1<f:=by
   refine B8h fun hno=>?_
   have:f=0\/f=1:=by omega
   rcases this with e0|e0
   ·rw [e0] at hf;omega
   ·rw [e0] at hf;omega
  have hf2:f<d:=by
   refine B8h fun hno=>?_
   have:=B8g (show d<=e by omega) (show d<=f by omega)
   omega
  exact hd f hf1 hf2 ⟨e,by rw [hf,B91]⟩
theorem B2b:Prm 2:=⟨by decide,fun d h1 h2=>by omega⟩
theorem A50:Prm 10007:=B0d (d:=101) (by decide) (by
 have:∀ e,e<101->1<e->¬ e∣10007:=by decide +kernel
 exact fun e h1 h2=>this e h2 h1) (by decide)
section
variable {h:Heap} {K:VP}
theorem Q3(a b:Nat):B8w (a:Int) (b:Int)=((a%b:Nat):Int):=by
 rw [Int.tmod_eq_emod_of_nonneg (by omega)];rfl
theorem Ef{p:Nat}(hp:p<9223372036854775808)(hK1:Prm p->p<=2147483647->K (.bool true) h)(hK0:¬ (Prm p/\p<=2147483647)->K (.bool false) h):FCall prog Bq #[I (p:Int)] h K:=by
 refine A13 _ ?_
 unfold A2c
 refine B7 (fun h1=>hK0 fun x=>by have:=x.1.1;omega) (fun h1=>?_)
 refine B7 (fun h2=>hK0 fun x=>by have:=x.2;omega) (fun h2=>?_)
 have hp2:2<=p:=by omega
 have ebig:p<=2147483647:=by omega
 rw [show (2:Int)=((2:Nat):Int) from rfl,Q3]
 refine D9 (fun e=>?_) (fun e=>?_)
 ·have h2v:p%2=0:=by omega
  by_cases e2:p=2
  ·subst e2
   exact hK1 B2b ebig
  ·have:(((p:Nat):Int)==((2:Nat):Int))=false:=by
    simp only [beq_eq_false_iff_ne,ne_eq];omega
   rw [this]
   exact hK0 fun x=>x.1.2 2 (by decide) (by omega) (B8y h2v)
 ·have hodd:p%2=1:=by omega
  refine ⟨fun L hp'=>∃ d:Nat,3<=d/\d<=50000/\d%2=1/\L=[I (d:Int)]/\hp'=h/\∀ e,1<e->e<d->¬ e∣p,fun L _=>60000-(iAt L 0).toNat,⟨3,by omega,by omega,by omega,rfl,rfl,fun e h1 h2 hd=>?_⟩,?_⟩
  ·have:e=2:=by omega
   subst this
   have:=B8q hd
   omega
  rintro z hq ⟨d,d3,dm,dodd,eL,rfl,hno⟩
  obtain rfl:=sI1 eL
  have hdd:d*d<=2500000000:=B8g dm dm
  have ew:B5 ((d:Int)*d)=((d*d:Nat):Int):=by rw [<- B8p,B8]<;>omega
  rw [ew]
  refine B7 (fun hle=>?_) (fun hgt=>hK1 (B0d hp2 hno (by omega)) ebig)
  refine B7 (fun hz=>by omega) (fun _=>?_)
  rw [Q3]
  refine D9 (fun e0=>?_) (fun e0=>?_)
  ·have hdv:d∣p:=B8y (by omega)
   refine hK0 fun x=>x.1.2 d (by omega) ?_ hdv
   refine B8h fun hge=>?_
   have:p*3<=d*d:=B8g (by omega) d3
   omega
  ·have hsm:d<=46341:=by
    refine B8h fun hge=>?_
    have:46342*46342<=d*d:=B8g (by omega) (by omega)
    omega
   rw [show B5 ((d:Int)+((2:Nat):Int))=((d+2:Nat):Int) by rw [B8]<;>omega]
   refine ⟨⟨d+2,by omega,by omega,by omega,rfl,rfl,fun e h1 h2 hd=>?_⟩,by simp only [Gw];omega⟩
   by_cases c:e<d
   ·exact hno e h1 c hd
   ·by_cases c2:e=d
    ·subst c2
     have:=B8q hd
     omega
    ·have e1:e=d+1:=by omega
     have:2∣p:=Nat.dvd_trans ⟨(d+1)/2,by omega⟩ (e1▸hd)
     have:=B8q this
     omega
theorem Qr{n:Nat}(hn:n<10000)(hK:∀ p,Prm p->p<=10007->K (.tuple #[I ((p:Nat):Int),.bool true]) h):FCall prog Lk #[I (n:Int)] h K:=by
 refine Vq _ ?_
 unfold St
 refine ⟨fun L hp'=>∃ c:Nat,c<10007/\L=[I (c:Int)]/\hp'=h,fun L _=>10007-(iAt L 0).toNat,⟨if n<1 then 1 else n,by split<;>omega,?_,rfl⟩,?_⟩
 ·by_cases c:n<1
  ·rw [if_pos c,if_pos (by omega)]
   rfl
  ·rw [if_neg c,if_neg (by omega)]
 rintro z hq ⟨c,hc,eL,rfl⟩
 obtain rfl:=sI1 eL
 have hlt:(c:Int)<2147483647:=by omega
 rw [decide_eq_true hlt]
 rw [wiS c (by omega)]
 refine Ef (by omega) (fun hp _=>⟨_,rfl,hK _ hp (by omega)⟩) (fun hno=>⟨_,rfl,?_⟩)
 have:c+1≠10007:=fun e=>hno ⟨by rw [e];exact A50,by omega⟩
 exact ⟨⟨c+1,by omega,rfl,rfl⟩,by simp only [Gw];omega⟩
theorem A5m{n:Int}(hK:∀ k:Nat,k<10000->K (I (k:Int)) h):FCall prog A5z #[I n,I 10000] h K:=by
 refine B3k _ _ ?_
 unfold B87
 have h1:=Int.tmod_lt_of_pos n (show (0:Int)<10000 by decide)
 have h2: -10000<B8w n 10000:=by
  have:=Int.lt_tmod_of_pos n (show (0:Int)<10000 by decide)
  omega
 refine B7 (fun e=>by omega) (fun _=>B7 (fun hneg=>?_) (fun hpos=>?_))
 ·have:=hK (B8w n 10000+10000).toNat (by omega)
  rw [show B5 (B8w n 10000+10000)=(((B8w n 10000+10000).toNat:Nat):Int) by rw [B8]<;>omega]
  exact this
 ·have:=hK (B8w n 10000).toNat (by omega)
  rw [show ((B8w n 10000).toNat:Int)=B8w n 10000 by omega] at this
  exact this
theorem Wx{a p:Nat}(hp:0<p)(ha:a<p)(hpb:p<=4294967296)(hK:K (U (a:Int)) h):FCall prog Kj #[I (a:Int),I (p:Int)] h K:=by
 refine A12 _ _ ?_
 unfold A2b
 rw [Q3,B8x ha]
 refine B7 (fun e=>by omega) (fun _=>B7 (fun hneg=>by omega) (fun _=>?_))
 rw [show C3 (a:Int)=(a:Int) from C4 (by omega) (by omega)]
 exact hK
theorem A2r{x n p:Nat}(hp:2<=p)(hpb:p<=4294967295)(hx:x<p)(hn:n<18446744073709551616)(hK:K (U ((x^n%p:Nat):Int)) h):FCall prog Up #[U (x:Int),U (n:Int),U (p:Int)] h K:=by
 refine A7o _ _ _ ?_
 unfold B1f
 refine ⟨fun L hp'=>∃ (y m r:Nat),y<p/\m<18446744073709551616/\r<p/\L=[U (y:Int),U (m:Int),U (r:Int)]/\hp'=h/\r*y^m%p=x^n%p,fun L _=>(iAt L 1).toNat,⟨x,n,1,hx,hn,by omega,rfl,rfl,by rw [Nat.one_mul]⟩,?_⟩
 rintro z1 z2 z3 hq ⟨y,m,r,hy,hm,hr,eL,rfl,he⟩
 simp only [B95,B92,true_and,and_true] at eL
 obtain ⟨rfl,rfl,rfl⟩:=eL
 have sq:∀ {u v:Nat},u<p->v<p->C3 ((u:Int)*v)=((u*v:Nat):Int):=fun {u v} hu hv=>by
  have h1:=B8g (show u<=4294967294 by omega) (show v<=4294967294 by omega)
  rw [<- B8p]
  exact C4 (by omega) (by omega)
 refine B7 (fun hm0=>?_) (fun hm0=>?_)
 ·have hb:Qo .u64 (m:Int) 1=((m%2:Nat):Int):=by
   rw [A39 ⟨by omega,by omega⟩];omega
  have hd:Int.fdiv (m:Int) (2^(min ((1:Int)).toNat 64))=((m/2:Nat):Int):=by
   rw [show (2:Int)^(min ((1:Int)).toNat 64)=2 from rfl,Int.fdiv_eq_ediv_of_nonneg _ (by decide)]
   omega
  rw [hb,hd,sq hy hy,Q3]
  have hy2:(y*y)%p<p:=B8r _ (by omega)
  have pw:∀ k,((y*y)%p)^k%p=y^(2*k)%p:=fun k=>by
   rw [<- Nat.pow_mod,<- Nat.pow_two,<- Nat.pow_mul]
  refine D9 (fun e=>?_) (fun e=>?_)
  ·refine B7 (fun e=>by omega) (fun _=>B7 (fun e=>by omega) (fun _=>?_))
   rw [sq hr hy,Q3]
   refine ⟨⟨_,m/2,(r*y)%p,hy2,by omega,B8r _ (by omega),rfl,rfl,?_⟩,?_⟩
   ·rw [<- he,Nat.mod_mul_mod,B94,pw,<- B94,Nat.mul_assoc]
    congr 2
    have em:m=2*(m/2)+1:=by omega
    generalize m/2=k at *
    subst em
    rw [Nat.pow_succ,B91]
   ·show ((m/2:Nat):Int).toNat<(m:Int).toNat;omega
  ·refine B7 (fun e=>by omega) (fun _=>?_)
   refine ⟨⟨_,m/2,r,hy2,by omega,hr,rfl,rfl,?_⟩,?_⟩
   ·rw [<- he,B94,pw,<- B94]
    congr 2
    congr 1
    omega
   ·show ((m/2:Nat):Int).toNat<(m:Int).toNat;omega
 ·have:m=0:=by omega
  subst this
  rw [Nat.pow_zero,Nat.mul_one,B8x hr] at he
  rw [<- he] at hK
  exact hK
theorem Oi{x p:Nat}(hp:2<=p)(hpb:p<=4294967295)(hx:x<p)(hK:K (U ((Ue p x:Nat):Int)) h):FCall prog Iv #[U (x:Int),U (p:Int)] h K:=by
 refine A3p _ _ ?_
 unfold A7p
 rw [show C3 ((p:Int)-2)=((p-2:Nat):Int) by rw [C4]<;>omega]
 exact A2r hp hpb hx (by omega) ⟨_,rfl,hK⟩
variable {s:Bool} {A:Option Addr} {n c:Nat} {z:Int}
theorem Hp{w:Nat}(i:ZI h s A n c z)(hw:0<w/\w<18446744073709551616)(hl:n<=1000000000)(hK:K (U (z%w)) h):FCall prog Fv #[.agg #[.bool s,.slice A n c],U (w:Int)] h K:=by
 refine A0t _ _ _ _ _ ?_
 unfold A23
 refine D9 (fun e=>by omega) (fun _=>?_)
 refine Ag i.mag hw hl ⟨_,rfl,?_⟩
 have hs:=i.sgn
 subst hs
 have hr0:=Int.emod_nonneg (z.natAbs:Int) (show (w:Int)≠0 by omega)
 have hr1:=Int.emod_lt_of_pos (z.natAbs:Int) (show (0:Int)<w by omega)
 refine B7 (fun hneg=>?_) (fun hpos=>?_)
 ·have ez:z= -(z.natAbs:Int):=by omega
  refine B7 (fun h0=>?_) (fun h0=>?_)
  ·have:z%w=w-(z.natAbs:Int)%w:=by
    have e1:=Int.mul_ediv_add_emod (z.natAbs:Int) w
    have e2:z=(w-(z.natAbs:Int)%w)+w*(-((z.natAbs:Int)/w)-1):=by
     rw [Int.mul_sub,Int.mul_neg];omega
    have e3:((w:Int)-(z.natAbs:Int)%w+w*(-((z.natAbs:Int)/w)-1))%w=w-(z.natAbs:Int)%w:=by
     rw [Int.add_mul_emod_self_left]
     exact Int.emod_eq_of_lt (by omega) (by omega)
    rw [<- e2] at e3
    exact e3
   rw [this] at hK
   rw [show C3 ((w:Int)-(z.natAbs:Int)%w)=(w:Int)-(z.natAbs:Int)%w from C4 (by omega) (by omega)]
   exact hK
  ·have h00:(z.natAbs:Int)%w=0:=by omega
   have:z%w=0:=by
    rw [ez]
    exact Int.emod_eq_zero_of_dvd (Int.dvd_neg.2 (Int.dvd_of_emod_eq_zero h00))
   rw [this] at hK
   rw [h00]
   exact hK
 ·have ez:(z.natAbs:Int)=z:=by omega
  rw [ez]
  exact hK
end
theorem A4x(x:Rat):x*(x.den:Rat)=(x.num:Rat):=by
 have h:=(Rat.num_divInt_den x).symm
 rw [Rat.divInt_eq_div] at h
 have h2:(((x.den:Nat):Int):Rat)=(x.den:Rat):=rfl
 have h3:(((x.den:Nat):Int):Rat)≠0:=S2 (by have:=x.den_nz;omega)
 rw [h2] at h h3
 generalize (x.den:Rat)=d at *
 generalize (x.num:Rat)=n at *
 rw [h]
 grind
theorem A3y{p:Nat}(h:Prm p){q:Rat}:Zq p q ↔ ¬ p∣q.den:=by
 constructor
 ·rintro ⟨d,d1,w,e⟩ hd
  have h1:q*(q.den:Rat)=(q.num:Rat):=A4x q
  have h2:((q.num*d:Int):Rat)=((w*(q.den:Int):Int):Rat):=by
   rw [B93,B93,<- h1,<- e]
   have:(((q.den:Nat):Int):Rat)=(q.den:Rat):=rfl
   rw [this]
   grind
  have h3:q.num*d=w*(q.den:Int):=by exact_mod_cast h2
  have h4:q.den∣q.num.natAbs*d.natAbs:=by
   rw [<- Int.natAbs_mul,h3,Int.natAbs_mul]
   exact ⟨w.natAbs,by rw [B91];rfl⟩
  have h5:q.den∣d.natAbs:=(Nat.Coprime.symm q.reduced).dvd_of_dvd_mul_left h4
  exact d1 (Int.ofNat_dvd_left.2 (Nat.dvd_trans hd h5))
 ·intro hd
  refine ⟨(q.den:Int),fun c=>hd (Int.ofNat_dvd.1 c),q.num,?_⟩
  exact A4x q
theorem B57{p:Nat}(h:Prm p){q:Rat}{a b v:Int}(hd:¬ p∣q.den)(ha:a=q.num%p)(hb:b=(q.den:Int)%p)(hv:Cg p ((b:Rat)*v) 1):Cg p q ((a*v:Int):Rat):=by
 have zq:=(A3y h).2 hd
 have ca:=Cg.mod h q.num
 have cb:=Cg.mod h (q.den:Int)
 rw [<- ha] at ca
 rw [<- hb] at cb
 rw [B93]
 have h1:=Cg.smul h zq hv
 rw [Rat.mul_one] at h1
 have h2:=Cg.smul h (Zq.mul h zq (Zq.int h v)) cb
 have h3:=Cg.smul h (Zq.int h v) ca
 have e1:q*((b:Rat)*v)=q*v*b:=by grind
 have e2:q*v*(((q.den:Int)):Rat)=(v:Rat)*(q.num:Rat):=by
  have:q*(q.den:Rat)=(q.num:Rat):=A4x q
  have e:(((q.den:Nat):Int):Rat)=(q.den:Rat):=rfl
  rw [e,<- this];grind
 rw [e1] at h1
 rw [e2] at h2
 refine Cg.trans h (Cg.symm h1) (Cg.trans h h2 ?_)
 rw [Rat.mul_comm (a:Rat)]
 exact Cg.symm h3
section
variable {h:Heap} {K:VP}
theorem Lc{p m:Nat}{q:Rat}(gl:Gl h)(hp:Prm p)(hpb:p<=2147483647)(hl:(N8 q).length<=100000000)(hs:Sz m q)(hm:m<=6400000000)
 (hK1:∀ r:Nat,r<p->Zq p q->Cg p q ((r:Int):Rat)->∀ h',h.le h'->K (.tuple #[I (r:Int),.bool true]) h') (hK0:¬ Zq p q->∀ h',h.le h'->K (.tuple #[I 0,.bool false]) h'):FCall prog Xq #[.string (bs (N8 q)),I (p:Int)] h K:=by
 have hp2:=hp.1
 refine A3o _ _ ?_
 unfold A7n
 refine Ef (by omega) (fun _ _=>⟨_,rfl,?_⟩) (fun hno=>absurd ⟨hp,hpb⟩ hno)
 show Br false _ _
 refine Ju gl.tz hl ?_ (fun hno=>absurd ⟨q,rfl⟩ hno)
 intro q' eq w h1 l1 i1
 have eqq:q'=q:=(A8f eq).symm
 subst eqq
 refine ⟨_,_,_,_,_,_,_,_,_,rfl,?_⟩
 show Br false _ _
 refine Dz i1 ?_
 intro s2 A2 n2 c2 h2 l2 i2
 refine ⟨_,_,_,_,rfl,?_⟩
 have ewp:C3 (p:Int)=(p:Int):=C4 (by omega) (by omega)
 rw [ewp]
 refine Hp i2 ⟨by omega,by omega⟩ (B8z (i2.len hs.2 hm) (by omega)) ⟨_,rfl,?_⟩
 have e2:(q'.den:Int)%p=((q'.den%p:Nat):Int):=rfl
 rw [e2]
 refine D9 (fun e0=>?_) (fun e0=>?_)
 ·refine hK0 (fun zq=>(A3y hp).1 zq (B8y (by omega))) h2 (B0 l1 l2)
 ·have hnd:¬ p∣q'.den:=fun c=>e0 (by rw [B8q c];rfl)
  have hdl:q'.den%p<p:=B8r _ (by omega)
  refine B3c _ _ _ _ _ _ _ _ ?_
  unfold B7z
  refine ⟨_,_,_,_,rfl,?_⟩
  refine Hp (i1.num.mono l2) ⟨by omega,by omega⟩ (B8z (i1.num.len hs.1 hm) (by omega)) ⟨_,rfl,?_⟩
  refine Oi hp2 (by omega) hdl ⟨_,rfl,?_⟩
  have hnum0:=Int.emod_nonneg q'.num (show (p:Int)≠0 by omega)
  have hnum1:=Int.emod_lt_of_pos q'.num (show (0:Int)<p by omega)
  obtain ⟨a,ha⟩:∃ a:Nat,q'.num%(p:Int)=(a:Int):=⟨(q'.num%(p:Int)).toNat,by omega⟩
  have hal:a<p:=by omega
  have hil:Ue p (q'.den%p)<p:=B8r _ (by omega)
  rw [ha]
  have hmul:=B8g (show a<=2147483647 by omega) (show Ue p (q'.den%p)<=2147483647 by omega)
  rw [show C3 ((a:Int)*((Ue p (q'.den%p):Nat):Int))=((a*Ue p (q'.den%p):Nat):Int) by rw [<- B8p,C4]<;>omega]
  refine B7 (fun e=>by omega) (fun _=>?_)
  rw [Q3]
  have hrl:a*Ue p (q'.den%p)%p<p:=B8r _ (by omega)
  rw [show B5 ((a*Ue p (q'.den%p)%p:Nat):Int)=((a*Ue p (q'.den%p)%p:Nat):Int) from B8 (by omega) (by omega)]
  refine hK1 _ hrl ((A3y hp).2 hnd) ?_ h2 (B0 l1 l2)
  refine Cg.trans hp ?_ (Cg.symm (Ql hp _))
  rw [B8p]
  exact B57 hp hnd ha.symm rfl (A1q (x:=q'.den%p) hp (fun c=>e0 (by rw [c];rfl)) hdl)
end
structure WV where
 z:Nat
instance:Enc WV:=⟨⟨fun s=>[U (s.z:Int)],1,fun _=>rfl,fun s v hv=>by rw [List.mem_singleton.1 hv];rfl⟩⟩
def WRow(o:Heap)(b w:Nat)(f:Nat->Nat):Prop:=∃ xs:List WV,RowB o b xs/\xs.length=w/\∀ j,j<w->xs[j]? = some ⟨f j⟩
theorem WRow.at{o:Heap}{b w:Nat}{f:Nat->Nat}(r:WRow o b w f){j:Nat}(hj:j<w):o.cell? (B8n ⟨b,0,none⟩ (j*1))=some (U (f j:Int)):=by
 obtain ⟨xs,rx,e,q⟩:=r
 have e1:=q j hj
 have hu:xs[j]=⟨f j⟩:=by
  rw [B8i (by omega)] at e1;exact B8s e1
 rw [D3,B8o]
 exact rx.cell (i:=j) (by omega) (j:=0) (by rw [hu];rfl)
theorem WRow.congr{o:Heap}{b w:Nat}{f f':Nat->Nat}(r:WRow o b w f)(e:∀ j,j<w->f j=f' j):WRow o b w f':=by
 obtain ⟨xs,rx,e1,q⟩:=r
 exact ⟨xs,rx,e1,fun j hj=>by rw [<- e j hj];exact q j hj⟩
structure Wt (h g o:Heap) (bo:Nat) (rb:Nat->Nat) (n w:Nat) (X:Nat->Nat->Nat):Prop where
 sep:Sep h g o
 hd:∃ hd:List HV,RowB o bo hd/\hd.length=n/\∀ i,i<n->∃ c,hd[i]? = some ⟨some ⟨rb i,0,none⟩,w,c⟩/\w<=c
 nb:∀ i,i<n->rb i≠bo
 inj:∀ i j,i<n->j<n->rb i=rb j->i=j
 row:∀ i,i<n->WRow o (rb i) w (X i)
section
variable {h g o:Heap} {bo n w:Nat} {rb:Nat->Nat} {X:Nat->Nat->Nat}
theorem Wt.congr(t:Wt h g o bo rb n w X){X':Nat->Nat->Nat}(e:∀ i j,i<n->j<w->X i j=X' i j):Wt h g o bo rb n w X':=
 ⟨t.sep,t.hd,t.nb,t.inj,fun i hi=>(t.row i hi).congr fun j hj=>e i j hi hj⟩
theorem Wt.head(t:Wt h g o bo rb n w X){i:Nat}(hi:i<n):∃ c,w<=c/\o.cell? (B8n ⟨bo,0,none⟩ (i*1))=some (.slice (some ⟨rb i,0,none⟩) w c):=by
 obtain ⟨hd,r,e,q⟩:=t.hd
 obtain ⟨c,e1,hc⟩:=q i hi
 refine ⟨c,hc,?_⟩
 have hu:hd[i]=⟨some ⟨rb i,0,none⟩,w,c⟩:=by
  rw [B8i (by omega)] at e1;exact B8s e1
 rw [D3,B8o]
 exact r.cell (i:=i) (by omega) (j:=0) (by rw [hu];rfl)
theorem Wt.at(t:Wt h g o bo rb n w X){i j:Nat}(hi:i<n)(hj:j<w):h.cell? (B8n ⟨rb i,0,none⟩ (j*1))=some (U (X i j:Int)):=t.sep.cell ((t.row i hi).at hj)
def B3x(X:Nat->Nat->Nat)(i j z:Nat):Nat->Nat->Nat:=fun a b=>if a=i/\b=j then z else X a b
theorem Wt.store(t:Wt h g o bo rb n w X){i j:Nat}(hi:i<n)(hj:j<w){z:Nat}{K:Unit->Heap->Prop}
 (k:∀ h' o',Wt h' g o' bo rb n w (B3x X i j z)->(∀ k,k≠rb i->o' k=o k)->K () h'):wpH prog (B90 B9 (.pointer (some (B8n ⟨rb i,0,none⟩ (j*1)))) (U (z:Int))) K h:=by
 obtain ⟨xs,r,e,q'⟩:=t.row i hi
 rw [D3,B8o]
 refine Sep.store (E:=inferInstanceAs (Enc WV)) D8 (v:=U (z:Int)) (y:=(⟨z⟩:WV)) rfl t.sep r (i:=j) (by omega) rfl ?_
 intro h' o' x' eo s' r'
 refine k h' o' ⟨s',?_,t.nb,t.inj,fun a ha=>?_⟩ (fun k hk=>by rw [eo,B6 _ _ hk])
 ·obtain ⟨hd,rh,h1,h2⟩:=t.hd
  exact ⟨hd,by rw [eo];exact rh.other (t.nb i hi).symm _,h1,h2⟩
 ·by_cases ea:a=i
  ·subst ea
   refine ⟨_,r',by simpa using e,fun b hb=>?_⟩
   unfold B3x
   by_cases eb:b=j
   ·rw [if_pos ⟨rfl,eb⟩,eb,B8k (by omega)]
   ·rw [if_neg (fun x=>eb x.2),B8m (fun x=>eb x.symm)]
    exact q' b hb
  ·obtain ⟨ys,ry,ey,qy⟩:=t.row a ha
   refine ⟨ys,by rw [eo];exact ry.other (fun e=>ea (t.inj a i ha hi e)) _,ey,fun b hb=>?_⟩
   unfold B3x
   rw [if_neg (fun x=>ea x.1)]
   exact qy b hb
theorem Wt.swap{P:Program}(t:Wt h g o bo rb n w X){i k:Nat}(hi:i<n)(hk:k<n){t':TypeId}(one:P.cellsOf t'=1/\(P.info? t').isSome=true){ci ck:Nat}(hcw:w<=ci)(hcw2:w<=ck){Y:Unit->Heap->Prop}
 (xx:∀ h1,(∀ {K:Unit->Heap->Prop},(∀ h' o',Wt h' g o' bo (fun a=>rb (xch i k a)) n w (fun a=>X (xch i k a))->K () h')->wpH P (B90 t' (.pointer (some (B8n ⟨bo,0,none⟩ (i*1)))) (.slice (some ⟨rb k,0,none⟩) w ck)) K h1)->Y () h1):
 wpH P (B90 t' (.pointer (some (B8n ⟨bo,0,none⟩ (k*1)))) (.slice (some ⟨rb i,0,none⟩) w ci)) Y h:=by
 obtain ⟨hd,r,e,q⟩:=t.hd
 rw [D3,B8o]
 refine Sep.store (E:=inferInstanceAs (Enc HV)) one (v:=.slice (some ⟨rb i,0,none⟩) w ci) (y:=(⟨some ⟨rb i,0,none⟩,w,ci⟩:HV)) rfl t.sep r (i:=k) (by omega) rfl ?_
 intro h1 o1 x1 eo1 s1 r1
 refine xx h1 (fun {K} kk=>?_)
 rw [D3,B8o]
 refine Sep.store (E:=inferInstanceAs (Enc HV)) one (v:=.slice (some ⟨rb k,0,none⟩) w ck) (y:=(⟨some ⟨rb k,0,none⟩,w,ck⟩:HV)) rfl s1 r1 (i:=i) (by simpa using (by omega:i<hd.length)) rfl ?_
 intro h2 o2 x2 eo2 s2 r2
 have ko:∀ b,b≠bo->o2 b=o b:=fun b hb=>by rw [eo2,B6 _ _ hb,eo1,B6 _ _ hb]
 have hx:∀ a,a<n->xch i k a<n:=fun a ha=>Kv hi hk ha
 have hinj:∀ a b,xch i k a=xch i k b->a=b:=fun a b h=>by rw [<- Zh (k:=i) (l:=k) (i:=a),h,Zh]
 refine kk h2 o2 ⟨s2,⟨_,r2,by simpa using e,fun a ha=>?_⟩,fun a ha=>t.nb _ (hx a ha),fun a b ha hb h=>hinj a b (t.inj _ _ (hx a ha) (hx b hb) h),fun a ha=>?_⟩
 ·by_cases e1:a=i
  ·subst e1
   exact ⟨ck,by rw [B8k (by simp;omega)];unfold xch;rw [if_pos rfl],hcw2⟩
  ·rw [B8m (fun x=>e1 x.symm)]
   by_cases e2:a=k
   ·subst e2
    exact ⟨ci,by rw [B8k (by omega)];unfold xch;rw [if_neg e1,if_pos rfl],hcw⟩
   ·rw [B8m (fun x=>e2 x.symm)]
    obtain ⟨c,h1,h2⟩:=q a ha
    exact ⟨c,by rw [h1];unfold xch;rw [if_neg e1,if_neg e2],h2⟩
 ·obtain ⟨xs,⟨e,ex',hb⟩,e2,qx⟩:=t.row _ (hx a ha)
  exact ⟨xs,⟨e,ex',by rw [ko _ (t.nb _ (hx a ha))];exact hb⟩,e2,qx⟩
end
theorem A89(i k a:Nat):xch i k a=xch k i a:=by
 unfold xch
 by_cases e:a=i
 ·by_cases e2:a=k
  ·rw [if_pos e,if_pos e2];omega
  ·rw [if_pos e,if_neg e2,if_pos e]
 ·by_cases e2:a=k
  ·rw [if_neg e,if_pos e2,if_pos e2]
  ·rw [if_neg e,if_neg e2,if_neg e2,if_neg e]
theorem A88(i a:Nat):xch i i a=a:=by
 unfold xch
 by_cases e:a=i
 ·rw [if_pos e,e]
 ·rw [if_neg e,if_neg e]
section
variable {h g o:Heap} {bo n:Nat} {rb:Nat->Nat} {X:Nat->Nat->Nat} {K:VP}
theorem Qu{p cp:Nat}(hp:Prm p)(hpb:p<=2147483647)(hn:n<=10000)(hcp:n<=cp)(hX:∀ i j,i<n->j<n->X i j<p)(t:Wt h g o bo rb n n X)
 (hK:∀ h' o',Sep h' g o'->K (.tuple #[I (((A3w p n ⟨X,1,0⟩ n).rk:Nat):Int),U (((A3w p n ⟨X,1,0⟩ n).pr:Nat):Int)]) h'):FCall prog El #[.slice (some ⟨bo,0,none⟩) n cp,I (n:Int),U (p:Int)] h K:=by
 have hp2:=hp.1
 refine Vr _ _ _ _ _ ?_
 unfold Su
 refine ⟨fun L hq=>∃ (c:Nat) (o1:Heap) (rb1:Nat->Nat),c<=n/\L=[I (((A3w p n ⟨X,1,0⟩ c).rk:Nat):Int),U (((A3w p n ⟨X,1,0⟩ c).pr:Nat):Int),I (c:Int)]/\Wt hq g o1 bo rb1 n n (A3w p n ⟨X,1,0⟩ c).X,fun L _=>n-(iAt L 2).toNat,⟨0,o,rb,by omega,rfl,t⟩,?_⟩
 rintro z1 z2 z3 hq ⟨c,o1,rb1,hc,eL,t1⟩
 simp only [B95,B92,true_and,and_true] at eL
 obtain ⟨rfl,rfl,rfl⟩:=eL
 have inv:=NRm.run hp hX c hc
 have sS:A3w p n ⟨X,1,0⟩ (c+1)=Ws p n c (A3w p n ⟨X,1,0⟩ c):=rfl
 refine B7 (fun hlt=>?_) (fun hge=>by
  have:c=n:=by omega
  subst this
  exact hK hq o1 t1.sep)
 have hcn:c<n:=by omega
 have ewc:B5 ((c:Int)+1)=((c+1:Nat):Int):=by rw [B8]<;>omega
 rw [ewc]
 generalize A3w p n ⟨X,1,0⟩ c=s at *
 have srk:=inv.le
 have slen:=inv.len
 have spr:=inv.prlt
 have slt:=inv.lt
 have pos:∀ {x:Int},(p:Int)=0->x=0->False:=fun e _=>by omega
 refine ⟨fun L hr=>∃ pv:Nat,s.rk<=pv/\pv<=n/\L=[I (pv:Int)]/\hr=hq/\∀ j,s.rk<=j->j<pv->s.X j c=0,fun L _=>n-(iAt L 0).toNat,⟨s.rk,B8j _,slen,rfl,rfl,fun j _ _=>by omega⟩,?_⟩
 rintro z4 hr ⟨pv,hv1,hv2,eL,rfl,hz⟩
 obtain rfl:=sI1 eL
 refine B7 (fun hge=>?_) (fun hlt2=>?_)
 ·have hrow:B0a s.X n s.rk c=n:=A1r _ slen (by omega) (fun j a b=>by rw [hz j a (by omega)];decide) (fun x=>by omega)
  refine ⟨⟨c+1,o1,rb1,by omega,?_,?_⟩,?_⟩
  ·rw [sS];unfold Ws;rw [hrow,if_neg (Nat.lt_irrefl n)]
  ·rw [sS];unfold Ws;rw [hrow,if_neg (Nat.lt_irrefl n)];exact t1
  ·show n-((c+1:Nat):Int).toNat<n-((c:Nat):Int).toNat
   omega
 have hpv:pv<n:=by omega
 have hrkn:s.rk<n:=by omega
 have cell:=fun {i:Nat} (hi:i<n)=>t1.head hi
 obtain ⟨cc,hcc,c0⟩:=t1.head hpv
 have cl0:=t1.at hpv hcn
 refine ⟨_,rfl,by omega,by omega,_,_,_,t1.sep.cell c0,_,rfl,by omega,by omega,_,cl0,?_⟩
 refine H9 (fun hne=>?_) (fun he=>?_)
 rotate_left
 ·rw [wiS pv (by omega)]
  refine ⟨⟨pv+1,by omega,by omega,rfl,rfl,fun j a b=>?_⟩,by simp only [Gw];omega⟩
  by_cases e:j=pv
  ·rw [e];omega
  ·exact hz j a (by omega)
 have hne':s.X pv c≠0:=fun e=>hne (by rw [e];rfl)
 have hrow:B0a s.X n s.rk c=pv:=A1r _ hv1 (by omega) (fun j a b=>by rw [hz j a b];decide) (fun _=>by simpa using hne')
 have sS2:Ws p n c s={ X:=U4 p (fun i=>s.X (xch s.rk pv i)) s.rk c,pr:=(if pv=s.rk then s.pr else (p-s.pr)%p)*s.X pv c%p,rk:=s.rk+1 }:=by
  unfold Ws
  rw [hrow,if_pos hpv]
 rw [sS2] at sS
 obtain ⟨cr,hcr,c1⟩:=t1.head hrkn
 refine ⟨fun L hw=>∃ (o2:Heap) (rb2:Nat->Nat),L=[U (((if pv=s.rk then s.pr else (p-s.pr)%p:Nat)):Int)]/\Wt hw g o2 bo rb2 n n (fun i=>s.X (xch s.rk pv i)),?_,?_⟩
 ·refine H9 (fun hx=>?_) (fun hx=>?_)
  ·refine ⟨_,rfl,by omega,by omega,_,_,_,t1.sep.cell c0,_,rfl,by omega,by omega,_,_,_,t1.sep.cell c1,_,rfl,by omega,by omega,?_⟩
   refine t1.swap hpv hrkn Ro hcc hcr ?_
   intro h1 next
   refine ⟨_,rfl,by omega,by omega,next ?_⟩
   intro h2 o2 t2
   refine B7 (fun e=>by omega) (fun _=>⟨o2,_,?_,t2.congr (fun i j _ _=>by rw [A89])⟩)
   rw [if_neg (fun e=>hx (by rw [e]))]
   rw [show C3 ((p:Int)-(s.pr:Int))=((p-s.pr:Nat):Int) by rw [C4]<;>omega,Q3]
  ·have e:pv=s.rk:=by omega
   refine ⟨o1,rb1,by rw [if_pos e],t1.congr (fun i j _ _=>by rw [e,A88])⟩
 rintro z5 hw ⟨o2,rb2,eL,t2⟩
 simp only [B95,B92,true_and,and_true] at eL
 subst eL
 have hprl:(if pv=s.rk then s.pr else (p-s.pr)%p)<p:=by
  split
  ·exact spr
  ·exact B8r _ (by omega)
 generalize (if pv=s.rk then s.pr else (p-s.pr)%p)=pr1 at *
 have hYlt:∀ i j,i<n->j<n->s.X (xch s.rk pv i) j<p:=fun i j hi hj=>slt _ j (Kv hrkn hpv hi) hj
 have hYr:s.X pv c=s.X (xch s.rk pv s.rk) c:=by rw [Fj]
 rw [hYr] at hne' sS
 generalize hY:(fun i=>s.X (xch s.rk pv i))=Y at *
 have eY:∀ i j,s.X (xch s.rk pv i) j=Y i j:=fun i j=>by rw [<- hY]
 simp only [eY] at hYlt hne' sS
 clear hYr
 generalize s.rk=r at *
 obtain ⟨c2n,hc2,d0⟩:=t2.head hrkn
 have cl2:=t2.at hrkn hcn
 refine ⟨_,rfl,by omega,by omega,_,_,_,t2.sep.cell d0,_,rfl,by omega,by omega,_,cl2,B7 (fun e=>by omega) (fun _=>⟨_,rfl,by omega,by omega,_,cl2,?_⟩)⟩
 refine Oi hp2 (by omega) (hYlt r c hrkn hcn) ⟨_,rfl,?_⟩
 have hvl:Ue p (Y r c)<p:=B8r _ (by omega)
 have mulw:∀ {u v:Nat},u<p->v<p->C3 ((u:Int)*v)=((u*v:Nat):Int):=fun {u v} hu hv=>by
  have h1:=B8g (show u<=2147483646 by omega) (show v<=2147483646 by omega)
  rw [<- B8p]
  exact C4 (by omega) (by omega)
 refine ⟨fun L hx=>∃ (k:Nat) (o3:Heap),c<=k/\k<=n/\L=[I (k:Int)]/\Wt hx g o3 bo rb2 n n (fun a b=>if a=r/\b<k then Vy p Y r c b else Y a b),fun L _=>n-(iAt L 0).toNat,⟨c,o2,B8j _,hc,rfl,t2.congr (fun a b _ _=>by
  by_cases e:a=r/\b<c
  ·rw [if_pos e];unfold Vy;rw [if_pos e.2,e.1]
  ·rw [if_neg e])⟩,?_⟩
 rintro z6 hx ⟨k,o3,hk1,hk2,eL,t3⟩
 obtain rfl:=sI1 eL
 refine B7 (fun hltk=>?_) (fun hgek=>?_)
 ·have hkn:k<n:=by omega
  have cl:=t3.at hrkn hkn
  rw [if_neg (show ¬ (r=r/\k<k) by omega)] at cl
  refine ⟨_,rfl,by omega,by omega,_,cl,B7 (fun e=>by omega) (fun _=>⟨_,rfl,by omega,by omega,?_⟩)⟩
  rw [mulw (hYlt r k hrkn hkn) hvl,Q3]
  refine t3.store hrkn hkn ?_
  intro h4 o4 t4 _
  rw [wiS k (by omega)]
  refine ⟨⟨k+1,o4,by omega,by omega,rfl,t4.congr (fun a b _ _=>?_)⟩,by simp only [Gw];omega⟩
  unfold B3x
  try dsimp only
  by_cases e:a=r/\b=k
  ·rw [if_pos e,if_pos ⟨e.1,by omega⟩,e.2]
   unfold Vy
   rw [if_neg (by omega)]
  ·rw [if_neg e]
   by_cases e2:a=r/\b<k
   ·rw [if_pos e2,if_pos ⟨e2.1,by omega⟩]
   ·rw [if_neg e2,if_neg (fun x=>by omega)]
 have ekn:k=n:=by omega
 subst ekn
 have er:B5 ((r:Int)+1)=((r+1:Nat):Int):=by rw [B8]<;>omega
 rw [er]
 refine ⟨⟨by omega,by omega⟩,?_⟩
 rw [show (((r+1:Nat):Int)).toNat=r+1 from rfl]
 refine ⟨fun L hx=>∃ (i:Nat) (o3:Heap),r+1+i<=k/\L=[I (i:Int)]/\Wt hx g o3 bo rb2 k k (fun a b=>if a<r+1+i then U4 p Y r c a b else Y a b),fun L _=>k-(iAt L 0).toNat,⟨0,o3,by omega,rfl,t3.congr (fun a b ha hb=>by
  by_cases e:a=r
  ·rw [if_pos ⟨e,hb⟩,if_pos (by omega)];unfold U4;rw [if_pos e]
  ·rw [if_neg (fun x=>e x.1)]
   by_cases e2:a<r+1+0
   ·rw [if_pos e2];unfold U4;rw [if_neg e,if_pos (.inl (by omega))]
   ·rw [if_neg e2])⟩,?_⟩
 clear t3
 rintro z7 hx ⟨i,o4,hi1,eL,t4⟩
 obtain rfl:=sI1 eL
 refine B7 (fun hlti=>?_) (fun hgei=>?_)
 rotate_left
 ·have ei:r+1+i=k:=by omega
  refine ⟨⟨c+1,o4,rb2,by omega,?_,?_⟩,?_⟩
  ·rw [sS,mulw hprl (hYlt r c hrkn hcn),Q3]
  ·rw [sS]
   exact t4.congr (fun a b ha hb=>by rw [if_pos (by omega)])
  ·show k-((c+1:Nat):Int).toNat<k-((c:Nat):Int).toNat
   omega
 have hin:r+1+i<k:=by omega
 obtain ⟨c4,hc4,f0⟩:=t4.head hin
 have eadr:B8n (B8n (⟨bo,0,none⟩:Addr) ((r+1)*1)) (((i:Int)).toNat*1)=B8n ⟨bo,0,none⟩ ((r+1+i)*1):=by
  rw [D3,D3,D3]
  congr 1
  show 0+(r+1)*1+i*1=_
  omega
 have cl:=t4.at hin hcn
 rw [if_neg (by omega)] at cl
 refine ⟨B8n ⟨bo,0,none⟩ ((r+1)*1),by unfold J1;rw [if_neg (by omega)];rfl,by omega,by omega,_,_,_,by rw [eadr];exact t4.sep.cell f0,_,rfl,by omega,by omega,_,cl,B7 (fun e=>by omega) (fun _=>?_)⟩
 have hal:=hYlt (r+1+i) c hin hcn
 have ef:B8w (C3 ((p:Int)-((Y (r+1+i) c:Nat):Int))) (p:Int)=(((p-Y (r+1+i) c)%p:Nat):Int):=by
  rw [show C3 ((p:Int)-((Y (r+1+i) c:Nat):Int))=((p-Y (r+1+i) c:Nat):Int) by rw [C4]<;>omega,Q3]
 rw [ef]
 have hfl:(p-Y (r+1+i) c)%p<p:=B8r _ (by omega)
 have eE:∀ b,c<=b->U4 p Y r c (r+1+i) b=(Y (r+1+i) b+(p-Y (r+1+i) c)%p*Vy p Y r c b)%p:=fun b hb=>by
  unfold U4
  rw [if_neg (by omega),if_neg (by omega)]
 have eE0:∀ b,b<c->U4 p Y r c (r+1+i) b=Y (r+1+i) b:=fun b hb=>by
  unfold U4
  rw [if_neg (by omega),if_pos (.inr hb)]
 have eEr:∀ b,U4 p Y r c r b=Vy p Y r c b:=fun b=>by unfold U4;rw [if_pos rfl]
 generalize (p-Y (r+1+i) c)%p=f at *
 refine ⟨fun L hy=>∃ (kk:Nat) (o5:Heap),c<=kk/\kk<=k/\L=[I (kk:Int)]/\Wt hy g o5 bo rb2 k k (fun a b=>if a<r+1+i then U4 p Y r c a b else if a=r+1+i/\b<kk then U4 p Y r c a b else Y a b),fun L _=>k-(iAt L 0).toNat,⟨c,o4,B8j _,hc,rfl,t4.congr (fun a b _ _=>by
  by_cases e:a<r+1+i
  ·rw [if_pos e,if_pos e]
  ·rw [if_neg e,if_neg e]
   by_cases e2:a=r+1+i/\b<c
   ·rw [if_pos e2,e2.1,eE0 b e2.2]
   ·rw [if_neg e2])⟩,?_⟩
 rintro z8 hy ⟨kk,o5,hk3,hk4,eL,t5⟩
 obtain rfl:=sI1 eL
 have ewi:B5 ((i:Int)+1)=((i+1:Nat):Int):=by rw [B8]<;>omega
 have next:(f=0\/kk=k)->(∃ (i':Nat) (o3:Heap),r+1+i'<=k/\[I (B5 ((i:Int)+1))]=[I (i':Int)]/\Wt hy g o3 bo rb2 k k (fun a b=>if a<r+1+i' then U4 p Y r c a b else Y a b))/\k-(iAt [I (B5 ((i:Int)+1))] 0).toNat<k-(iAt [I (i:Int)] 0).toNat:=fun hf=>by
  rw [ewi]
  refine ⟨⟨i+1,o5,by omega,rfl,t5.congr (fun a b _ hb=>?_)⟩,by simp only [Gw];omega⟩
  by_cases e:a<r+1+i
  ·rw [if_pos e,if_pos (by omega)]
  ·rw [if_neg e]
   by_cases e2:a=r+1+i
   ·rw [if_pos (show a<r+1+(i+1) by omega)]
    by_cases e3:b<kk
    ·rw [if_pos ⟨e2,e3⟩]
    ·rw [if_neg (fun x=>e3 x.2)]
     rcases hf with hf|hf
     ·rw [e2]
      by_cases e4:b<c
      ·rw [eE0 b e4]
      ·rw [eE b (by omega),hf,Nat.zero_mul]
       exact (B8x (hYlt _ b hin hb)).symm
     ·omega
   ·rw [if_neg (fun x=>e2 x.1),if_neg (show ¬ a<r+1+(i+1) by omega)]
 refine B7 (fun hltk=>?_) (fun hgek=>next (.inr (by omega)))
 have hkn:kk<k:=by omega
 refine H9 (fun hf=>?_) (fun hf=>next (.inl (by omega)))
 have c1:=t5.at hin hkn
 rw [if_neg (by omega),if_neg (by omega)] at c1
 have c2:=t5.at hrkn hkn
 rw [if_pos (by omega),eEr] at c2
 refine ⟨_,rfl,by omega,by omega,_,c1,_,rfl,by omega,by omega,_,c2,B7 (fun e=>by omega) (fun _=>⟨_,rfl,by omega,by omega,?_⟩)⟩
 have hsl:Vy p Y r c kk<p:=A4s hp (hYlt r kk hrkn hkn)
 have hyl:=hYlt (r+1+i) kk hin hkn
 have hm2:=B8g (show f<=2147483646 by omega) (show Vy p Y r c kk<=2147483646 by omega)
 rw [mulw hfl hsl,show C3 (((Y (r+1+i) kk:Nat):Int)+((f*Vy p Y r c kk:Nat):Int))=((Y (r+1+i) kk+f*Vy p Y r c kk:Nat):Int) by rw [C4]<;>omega,Q3]
 refine t5.store hin hkn ?_
 intro h6 o6 t6 _
 rw [wiS kk (by omega)]
 refine ⟨⟨kk+1,o6,by omega,by omega,rfl,t6.congr (fun a b _ _=>?_)⟩,by simp only [Gw];omega⟩
 unfold B3x
 try dsimp only
 by_cases e:a=r+1+i/\b=kk
 ·rw [if_pos e,if_neg (by omega),if_pos (by omega),e.1,e.2,eE kk hk3]
 ·rw [if_neg e]
  by_cases e2:a<r+1+i
  ·rw [if_pos e2,if_pos e2]
  ·rw [if_neg e2,if_neg e2]
   by_cases e3:a=r+1+i/\b<kk
   ·rw [if_pos e3,if_pos (by omega)]
   ·rw [if_neg e3,if_neg (by omega)]
end
abbrev RWi(w:Nat):Heap->HV->(Nat->Nat)->Prop:=fun h s f=>s.n=w/\w<=s.c/\RowV IIr h s.A w (fun j=>(f j:Int))
theorem B0k(w:Nat):Mon (RWi w):=fun _ _ _ _ l i=>⟨i.1,i.2.1,i.2.2.mono B4d l⟩
theorem Ug{h:Heap}{A:Option Addr}{n w:Nat}{X:Nat->Nat->Nat}(r:RowV (RWi w) h A n X){i:Nat}(hi:i<n):∃ (a:Addr) (s:HV),A=some a/\s.n=w/\w<=s.c/\h.cell? (B8n a (i*1))=some (.slice s.A s.n s.c)/\RowV IIr h s.A w (fun j=>(X i j:Int)):=by
 obtain ⟨hd,s,e,r⟩:=r
 obtain ⟨u,e1,e2,e3,r⟩:=r i hi
 obtain ⟨a,ha,hc⟩:=SlF.at (by decide) s (i:=i) (by omega)
 have hu:hd[i]=u:=by
  rw [B8i (by omega)] at e1;exact B8s e1
 have:=hc 0 _ (by rw [hu];rfl)
 rw [Jc] at this
 exact ⟨a,u,ha,e2,e3,this,r⟩
theorem B2i{h:Heap}{A:Option Addr}{w:Nat}{f:Nat->Int}(r:RowV IIr h A w f){j:Nat}(hj:j<w):∃ a,A=some a/\h.cell? (B8n a (j*1))=some (I (f j)):=by
 obtain ⟨xs,s,e,r⟩:=r
 obtain ⟨u,e1,hu⟩:=r j hj
 obtain ⟨a,ha,hc⟩:=A10 s (i:=j) (by omega)
 have hx:xs[j]=u:=by
  rw [B8i (by omega)] at e1;exact B8s e1
 have hu':u=f j:=hu
 exact ⟨a,ha,by rw [hc,hx,hu']⟩
theorem RowB.keepB{α:Type}[E:Enc α]{o o':Heap}{b:Nat}{xs:List α}(r:RowB o b xs)(h:∀ x,o b=some x->o' b=some x):RowB o' b xs:=by
 obtain ⟨e,ex,hb⟩:=r
 exact ⟨e,ex,h _ hb⟩
theorem A96{o:Heap}{bo:Nat}{hd:List HV}(r:RowB o bo hd){i:Nat}{u:HV}(e:hd[i]? = some u):o.cell? (B8n ⟨bo,0,none⟩ (i*1))=some (.slice u.A u.n u.c):=by
 have hi:i<hd.length:=by
  refine B8h fun c=>?_
  rw [List.getElem?_eq_none (by omega)] at e;cases e
 have hu:hd[i]=u:=by
  rw [B8i hi] at e;exact B8s e
 rw [D3,B8o]
 exact r.cell (i:=i) hi (j:=0) (by rw [hu];rfl)
theorem Xl{h g o:Heap}{bo:Nat}{hd:List HV}(s:Sep h g o)(r:RowB o bo hd){i:Nat}(hi:i<hd.length){A:Option Addr}{n c:Nat}{K:Unit->Heap->Prop}
 (x:∀ h' o',Sep h' g o'->RowB o' bo (hd.set i ⟨A,n,c⟩)->(∀ k,k≠bo->o' k=o k)->K () h'):wpH prog (B90 N0 (.pointer (some (B8n ⟨bo,0,none⟩ (i*1)))) (.slice A n c)) K h:=by
 rw [D3,B8o]
 refine Sep.store (E:=inferInstanceAs (Enc HV)) Ro (v:=.slice A n c) (y:=(⟨A,n,c⟩:HV)) rfl s r (i:=i) hi rfl ?_
 intro h' o' x' eo s' r'
 exact x h' o' s' r' (fun k hk=>by rw [eo,B6 _ _ hk])
theorem WRow.keep{o o':Heap}{b w:Nat}{f:Nat->Nat}(r:WRow o b w f)(h:∀ x,o b=some x->o' b=some x):WRow o' b w f:=by
 obtain ⟨xs,rx,e,q⟩:=r
 exact ⟨xs,rx.keepB h,e,q⟩
theorem WRow.own{o:Heap}{b w:Nat}{f:Nat->Nat}(r:WRow o b w f):∃ x,o b=some x:=by
 obtain ⟨xs,⟨e,ex,hb⟩,_⟩:=r
 exact ⟨_,hb⟩
theorem RowB.own{α:Type}[E:Enc α]{o:Heap}{b:Nat}{xs:List α}(r:RowB o b xs):∃ x,o b=some x:=by
 obtain ⟨e,ex,hb⟩:=r
 exact ⟨_,hb⟩
section
variable {h:Heap} {K:VP} {A:Option Addr} {n cap p:Nat} {X:Nat->Nat->Nat}
theorem A36(hp:Prm p)(hpb:p<=2147483647)(r:RowV (RWi n) h A n X)(hn1:1<=n)(hn:n<=64)(hK:K (I 0) h):FCall prog Uq #[.slice A n cap,I (p:Int),.bool true] h K:=by
 refine A7q _ _ _ _ _ ?_
 unfold B1g
 refine Ef (by omega) (fun _ _=>⟨_,rfl,?_⟩) (fun hno=>absurd ⟨hp,hpb⟩ hno)
 show Br false _ _
 refine D9 (fun e=>by omega) (fun _=>?_)
 obtain ⟨a,s,ea,e1,e2,hc,_⟩:=Ug r (i:=0) (by omega)
 refine ⟨a,ea,by omega,by omega,_,_,_,hc,?_⟩
 rw [e1]
 refine D9 (fun e=>by omega) (fun _=>?_)
 show Br true _ _
 refine H9 (fun e=>absurd rfl e) (fun _=>?_)
 refine ⟨fun L hp'=>∃ k:Nat,k<=n/\L=[I (k:Int)]/\hp'=h,fun L _=>n-(iAt L 0).toNat,⟨0,by omega,rfl,rfl⟩,?_⟩
 rintro z hq ⟨k,hk,eL,rfl⟩
 obtain rfl:=sI1 eL
 refine B7 (fun hlt=>?_) (fun hge=>B7 (fun e=>by omega) (fun _=>B7 (fun e=>by omega) (fun _=>hK)))
 obtain ⟨a2,s2,ea2,f1,f2,hc2,_⟩:=Ug r (i:=k) (by omega)
 refine ⟨a2,ea2,by omega,by omega,_,_,_,hc2,?_⟩
 rw [f1]
 refine H9 (fun e=>absurd rfl e) (fun _=>?_)
 rw [wiS k (by omega)]
 exact ⟨⟨k+1,by omega,rfl,rfl⟩,by simp only [Gw];omega⟩
theorem Ts(hp0:0<p)(hpb:p<=2147483647)(r:RowV (RWi n) h A n X)(hn1:1<=n)(hn:n<=64)(hX:∀ i j,i<n->j<n->X i j<p)
 (hK:∀ h' g' o' bo rb,h.le g'->Wt h' g' o' bo rb n n X->K (.slice (some ⟨bo,0,none⟩) n n) h'):FCall prog Hd #[.slice A n cap,I (p:Int)] h K:=by
 refine Yr _ _ _ _ ?_
 unfold Ys
 refine Ah Wp (zx:=(⟨none,0,0⟩:HV)) rfl (by omega) (by omega) (by omega) (by omega) ?_
 intro bo hbo
 simp only [Int.toNat_natCast]
 have s0:=(Sep.refl h).new hbo (.cells ((B8u n (⟨none,0,0⟩:HV)).flatMap enc).toArray N0)
 refine ⟨_,_,_,rfl,fun L hq=>∃ (i:Nat) (g o:Heap) (rb:Nat->Nat) (hd:List HV),i<=n/\L=[I (i:Int)]/\h.le g/\Sep hq g o/\RowB o bo hd/\hd.length=n/\(∀ a,a<i->∃ c,hd[a]? = some ⟨some ⟨rb a,0,none⟩,n,c⟩/\n<=c)/\(∀ a,a<i->rb a≠bo)/\(∀ a b,a<i->b<i->rb a=rb b->a=b)/\∀ a,a<i->WRow o (rb a) n (X a),fun L _=>n-(iAt L 0).toNat,⟨0,h,_,fun _=>0,_,by omega,rfl,B4 _,s0,RowB.mk,List.length_replicate,fun a ha=>by omega,fun a ha=>by omega,fun a b ha=>by omega,fun a ha=>by omega⟩,?_⟩
 rintro z hq ⟨i,g,o,rb,hd,hi,eL,lg,s,rbo,hhd,heads,nb,inj,rows⟩
 obtain rfl:=sI1 eL
 refine B7 (fun hlt=>?_) (fun hge=>?_)
 rotate_left
 ·have:i=n:=by omega
  subst this
  exact hK hq g o bo rb lg ⟨s,⟨hd,rbo,hhd,heads⟩,nb,inj,rows⟩
 have hin:i<n:=by omega
 have lhq:=B0 lg s.le
 obtain ⟨a1,s1,ea1,e1,e2,hc1,row⟩:=Ug r hin
 refine ⟨a1,ea1,by omega,by omega,_,_,_,C0 lhq hc1,?_⟩
 rw [e1,wiS n (by omega)]
 refine Ah L0 (zx:=(⟨0⟩:WV)) rfl (by omega) (by omega) (by omega) (by omega) ?_
 intro b2 hb2
 refine ⟨_,_,_,rfl,_,rfl,by omega,by omega,?_⟩
 simp only [Int.toNat_natCast]
 have fr:∀ {k x},o k=some x->k≠b2:=by
  rintro k x e rfl
  rw [s.own k x e] at hb2;cases hb2
 have s2:=s.new hb2 (.cells ((B8u (n+1) (⟨0⟩:WV)).flatMap enc).toArray B9)
 obtain ⟨xbo,hxbo⟩:=rbo.own
 have nbo:bo≠b2:=fr hxbo
 have rbo2:=rbo.keepB (o':=o.put b2 (.cells ((B8u (n+1) (⟨0⟩:WV)).flatMap enc).toArray B9)) fun x hx=>by rw [B6 _ _ nbo];exact hx
 have rows2:∀ a,a<i->WRow (o.put b2 (.cells ((B8u (n+1) (⟨0⟩:WV)).flatMap enc).toArray B9)) (rb a) n (X a):=fun a ha=>(rows a ha).keep fun x hx=>by rw [B6 _ _ (fr hx)];exact hx
 have nrb:∀ a,a<i->rb a≠b2:=fun a ha=>by obtain ⟨x,hx⟩:=(rows a ha).own;exact fr hx
 refine Xl s2 rbo2 (by omega) ?_
 intro h3 o3 s3 r3 ko3
 have ow3:OwnSl o3 B9 (some ⟨b2,0,none⟩) (n+1) ([]:List WV):=⟨by simp,.inr ⟨b2,(B8u (n+1) (⟨0⟩:WV)).flatMap enc,rfl,by rw [ko3 _ nbo.symm,C1],by rw [I3,List.length_replicate],by simp⟩⟩
 have rows3:∀ a,a<i->WRow o3 (rb a) n (X a):=fun a ha=>(rows2 a ha).keep fun x hx=>by rw [ko3 _ (nb a ha)];exact hx
 refine ⟨fun L hx=>∃ (g' o':Heap) (hd':List HV) (ys:List WV) (A':Option Addr) (c':Nat),ys.length<=n/\L=[I (ys.length:Int)]/\g.le g'/\Sep hx g' o'/\RowB o' bo hd'/\hd'.length=n/\hd'[i]? = some ⟨A',ys.length,c'⟩/\(∀ a,a<i->hd'[a]? = hd[a]?)/\OwnSl o' B9 A' c' ys/\(∀ j,j<ys.length->ys[j]? = some ⟨X i j⟩)/\A'≠some ⟨bo,0,none⟩/\(∀ a,a<i->A'≠some ⟨rb a,0,none⟩)/\∀ a,a<i->WRow o' (rb a) n (X a),fun L _=>n-(iAt L 0).toNat,⟨g,o3,_,[],_,_,by simp,rfl,B4 _,s3,r3,by rw [List.length_set];exact hhd,B8k (by omega),fun a ha=>B8m (by omega),ow3,fun j hj=>by simp at hj,fun e=>nbo (by simpa using e.symm),fun a ha e=>nrb a ha (by simpa using e.symm),rows3⟩,?_⟩
 clear rows3 ow3 r3 s3 ko3 rows2 rbo2 s2
 rintro z2 hx ⟨g',o',hd',ys,A',c',hk,eL,lg',s',rbo',hhd',hi',hold,ow,hys,nAb,nAr,rows'⟩
 obtain rfl:z2=(ys.length:Int):=by simpa using eL
 have lhx:=B0 lg' s'.le
 refine B7 (fun hlt2=>?_) (fun hge2=>?_)
 ·have hyn:ys.length<n:=by omega
  obtain ⟨a3,ea3,hc3⟩:=B2i (row.mono B4d (B0 lg lhx)) hyn
  refine ⟨a3,ea3,by omega,by omega,_,hc3,_,rfl,by omega,by omega,_,_,_,s'.cell (A96 rbo' hi'),?_⟩
  refine Wx hp0 (hX i ys.length hin hyn) (by omega) ⟨_,rfl,B4 _,?_⟩
  refine OwnSl.push (ty:=Q1) L0 s' ow (y:=(⟨X i ys.length⟩:WV)) rfl (by decide) (by omega) (by omega) (K1:=fun hh=>Heap.le hx hh) (fun _ l=>l) ?_
  intro A3 c3 h3 g3 o3 l3 s3 ow3 kp
  obtain ⟨ybo,hybo⟩:=rbo'.own
  have kb:=kp bo _ hybo nAb
  have kr:∀ a,a<i->∀ x,o' (rb a)=some x->o3 (rb a)=some x/\A3≠some ⟨rb a,0,none⟩:=fun a ha x hx=>kp (rb a) x hx (nAr a ha)
  refine ⟨_,rfl,by omega,by omega,?_⟩
  refine Xl s3 (rbo'.keepB fun x hx=>(kp bo x hx nAb).1) (by omega) ?_
  intro h4 o4 s4 r4 ko4
  rw [show B5 ((ys.length:Int)+1)=((ys.length+1:Nat):Int) by rw [B8]<;>omega]
  refine ⟨⟨g3,o4,_,ys++[⟨X i ys.length⟩],A3,c3,by rw [B8l];simp;omega,by rw [B8l];rfl,B0 lg' l3,s4,r4,by rw [List.length_set];exact hhd',by rw [B8k (by omega),B8l];rfl,fun a ha=>by rw [B8m (by omega)];exact hold a ha,ow3.keep fun b x hA hx=>by rw [ko4 b (fun e=>kb.2 (by rw [hA,e]))];exact hx,fun j hj=>?_,kb.2,fun a ha=>?_,fun a ha=>?_⟩,?_⟩
  ·rw [B8l] at hj
   by_cases e:j<ys.length
   ·rw [B8v e];exact hys j e
   ·have ej:j=ys.length:=by simp at hj;omega
    rw [ej,B8t (B8j _),Nat.sub_self];rfl
  ·obtain ⟨x,hx⟩:=(rows' a ha).own
   exact (kr a ha x hx).2
  ·exact ((rows' a ha).keep fun x hx=>(kr a ha x hx).1).keep fun x hx=>by rw [ko4 _ (nb a ha)];exact hx
  ·simp only [Gw];omega
 ·have hyn:ys.length=n:=by omega
  obtain ⟨b3,rfl,rb3⟩:=ow.rowB (by rintro rfl;simp at hyn;omega)
  rw [wiS i (by omega)]
  have n3:∀ a,a<i->b3≠rb a:=fun a ha e=>nAr a ha (by rw [e])
  refine ⟨⟨i+1,g',o',fun a=>if a=i then b3 else rb a,hd',by omega,rfl,B0 lg lg',s',rbo',hhd',fun a ha=>?_,fun a ha=>?_,fun a b ha hb e=>?_,fun a ha=>?_⟩,by simp only [Gw];omega⟩
  ·by_cases e:a=i
   ·subst e
    exact ⟨c',by rw [hi'];show _=some (⟨some ⟨if a=a then b3 else rb a,0,none⟩,n,c'⟩:HV);rw [if_pos rfl,hyn],by have:=ow.1;omega⟩
   ·obtain ⟨c,f1,f2⟩:=heads a (by omega)
    exact ⟨c,by rw [hold a (by omega)];show _=some (⟨some ⟨if a=i then b3 else rb a,0,none⟩,n,c⟩:HV);rw [if_neg e];exact f1,f2⟩
  ·show (if a=i then b3 else rb a)≠bo
   by_cases e:a=i
   ·rw [if_pos e];exact fun e2=>nAb (by rw [e2])
   ·rw [if_neg e];exact nb a (by omega)
  ·have e':(if a=i then b3 else rb a)=(if b=i then b3 else rb b):=e
   by_cases c1:a=i
   ·by_cases c2:b=i
    ·omega
    ·rw [if_pos c1,if_neg c2] at e'
     exact absurd e' (n3 b (by omega))
   ·by_cases c2:b=i
    ·rw [if_neg c1,if_pos c2] at e'
     exact absurd e'.symm (n3 a (by omega))
    ·rw [if_neg c1,if_neg c2] at e'
     exact inj a b (by omega) (by omega) e'
  ·show WRow o' (if a=i then b3 else rb a) n (X a)
   by_cases e:a=i
   ·subst e
    rw [if_pos rfl]
    exact ⟨ys,rb3,hyn,fun j hj=>hys j (by omega)⟩
   ·rw [if_neg e];exact rows' a (by omega)
theorem A53(hp:Prm p)(hpb:p<=2147483647)(r:RowV (RWi n) h A n X)(hn1:1<=n)(hn:n<=64)(hX:∀ i j,i<n->j<n->X i j<p)
 (hK:∀ d:Nat,d<p->Cg p (dt n (XR X)) ((d:Int):Rat)->∀ h',h.le h'->K (.tuple #[I (d:Int),I 0]) h'):FCall prog B0q #[.slice A n cap,I (p:Int)] h K:=by
 have hp2:=hp.1
 refine B3h _ _ _ _ ?_
 unfold B84
 refine A36 hp hpb r hn1 hn ⟨_,rfl,H9 (fun e=>absurd rfl e) (fun _=>?_)⟩
 refine Ts (by omega) hpb r hn1 hn hX ?_
 intro h1 g1 o1 bo rb l1 t
 refine ⟨_,_,_,rfl,?_⟩
 rw [show C3 (p:Int)=(p:Int) from C4 (by omega) (by omega)]
 have inv:=NRm.run hp hX n (B8j n)
 have hd:=inv.det hp
 have hpl:=inv.prlt
 refine Qu hp hpb (by omega) (B8j n) hX t ?_
 intro h2 o2 s2
 refine ⟨_,_,rfl,?_⟩
 have l2:h.le h2:=B0 l1 s2.le
 refine B7 (fun hlt=>?_) (fun hge=>?_)
 ·rw [if_pos (by omega)] at hd
  exact hK 0 (by omega) hd h2 l2
 ·rw [if_neg (by omega)] at hd
  rw [show B5 (((A3w p n ⟨X,1,0⟩ n).pr:Nat):Int)=(((A3w p n ⟨X,1,0⟩ n).pr:Nat):Int) from B8 (by omega) (by omega)]
  exact hK _ hpl hd h2 l2
end
section
variable {h:Heap} {K:VP} {A B:Option Addr} {n n2 cap cap2 m:Nat} {r c r2 c2:Int} {la lb:Nat->List UInt8}
end
def Tu(la:Nat->List UInt8)(mid:Nat)(lb:Nat->List UInt8)(cols:Nat):Nat->List UInt8:=fun k=>N8 (sm mid (fun j=>mtx (rvs la) mid (k/cols) j*mtx (rvs lb) cols j (k%cols)))
theorem A6e{i j c:Nat}(hj:j<c):(i*c+j)/c=i/\(i*c+j)%c=j:=by
 rw [Nat.add_comm,Nat.add_mul_mod_self_right,B8x hj,Nat.add_mul_div_right _ _ (by omega),Nat.div_eq_of_lt hj,B8o]
 exact ⟨rfl,rfl⟩
theorem A4y(la:Nat->List UInt8)(mid:Nat)(lb:Nat->List UInt8){cols i j:Nat}(hj:j<cols):mtx (rvs (Tu la mid lb cols)) cols i j=sm mid (fun t=>mtx (rvs la) mid i t*mtx (rvs lb) cols t j):=by
 obtain ⟨e1,e2⟩:=A6e (i:=i) hj
 show rv (N8 (sm mid (fun t=>mtx (rvs la) mid ((i*cols+j)/cols) t*mtx (rvs lb) cols t ((i*cols+j)%cols))))=_
 rw [Af,e1,e2]
section
variable {r c r2 c2:Int} {n n2 m rows mid mid2 cols:Nat} {la lb:Nat->List UInt8} {o:MOut}
theorem MOk.prod(ma:MOk r c n la rows mid)(mb:MOk r2 c2 n2 lb mid cols):MOk r c2 (rows*cols) (Tu la mid lb cols) rows cols:=⟨ma.er,mb.ec,ma.r1,ma.r2,mb.c1,mb.c2,rfl,fun _ _=>⟨_,rfl⟩⟩
theorem MOk.uniq{rows2 cols2:Nat}(ma:MOk r c n la rows cols)(mb:MOk r c n la rows2 cols2):rows2=rows/\cols2=cols:=by
 have:=ma.er;have:=ma.ec;have:=mb.er;have:=mb.ec
 omega
theorem MulO.ok(ma:MOk r c n la rows mid)(mb:MOk r2 c2 n2 lb mid2 cols)(ho:MulO r c n la r2 c2 n2 lb o):(mid=mid2/\c=r2/\o=⟨r,c2,rows*cols,Tu la mid lb cols,0⟩)\/(mid≠mid2/\c≠r2/\o=noM 4):=by
 rcases ho with ⟨h1,_⟩|⟨_,_,h3,rfl⟩|⟨a1,b1,c1,h1,h2,rfl⟩
 ·exact absurd ⟨⟨_,_,ma⟩,⟨_,_,mb⟩⟩ h1
 ·exact .inr ⟨by rintro rfl;exact h3 (by rw [ma.ec,mb.er]),h3,rfl⟩
 ·obtain ⟨rfl,rfl⟩:=ma.uniq h1
  obtain ⟨rfl,rfl⟩:=mb.uniq h2
  exact .inl ⟨rfl,by rw [h1.ec,h2.er],rfl⟩
theorem A1j(ma:MOk r c n la rows mid)(mb:MOk r2 c2 n2 lb mid cols)(hs:∀ i,i<n->Sz m (rv (la i)))(hs2:∀ i,i<n2->Sz m (rv (lb i))):∀ i,i<rows*cols->Sz (1+mid*(2*m+1)) (rv (Tu la mid lb cols i)):=by
 intro i hi
 have hc:=mb.c1
 have hr:=ma.r1
 have e1:=ma.len
 have e2:=mb.len
 have h1:i/cols<rows:=Nat.div_lt_of_lt_mul (by rw [B91];exact hi)
 have h2:=B8r i (show 0<cols by omega)
 show Sz _ (rv (N8 _))
 rw [Af]
 exact B45 (fun j hj=>hs _ (by rw [e1];exact Y7 h1 hj)) (fun j hj=>hs2 _ (by rw [e2];exact Y7 hj h2)) mid (B8j _)
theorem A4z(ma:MOk r c n la rows mid)(mb:MOk r2 c2 n2 lb mid cols)(hs:∀ i,i<n->Sz m (rv (la i)))(hs2:∀ i,i<n2->Sz m (rv (lb i))):∀ i,i<rows*cols->(Tu la mid lb cols i).length<=2*(1+mid*(2*m+1))+4:=by
 intro i hi
 have:=A1j ma mb hs hs2 i hi
 refine Mv ?_
 rw [<- Af (sm mid (fun j=>mtx (rvs la) mid (i/cols) j*mtx (rvs lb) cols j (i%cols)))]
 exact this
end
theorem OwnSl.give{α:Type}[E:Enc α]{h g o:Heap}{e:TypeId}{A:Option Addr}{c:Nat}{xs:List α}(s:Sep h g o)(w:OwnSl o e A c xs):∃ g2 o2,g.le g2/\Sep h g2 o2/\SlF g2 A xs/\(∀ k x,A≠some ⟨k,0,none⟩->o k=some x->o2 k=some x):=by
 have hle:Heap.le (fun k=>if A=some ⟨k,0,none⟩ then none else o k) o:=fun k x e=>by
  dsimp only at e
  by_cases c:A=some ⟨k,0,none⟩
  ·rw [if_pos c] at e;cases e
  ·rw [if_neg c] at e;exact e
 obtain ⟨g2,l2,s2⟩:=s.give hle
 refine ⟨g2,_,l2,s2,?_,fun k x hne hx=>by
  show (if A=some ⟨k,0,none⟩ then none else o k)=some x
  rw [if_neg hne];exact hx⟩
 by_cases hne:xs=[]
 ·rw [hne];exact SlF.nil
 ·obtain ⟨b,rfl,e',ex,hb⟩:=w.rowB hne
  have h1:g2 b=some (.cells (xs.flatMap enc++ex).toArray e'):=by
   rw [<- s2.rest b (by show (if some (⟨b,0,none⟩:Addr)=some ⟨b,0,none⟩ then none else o b)=none;rw [if_pos rfl])]
   exact s.own b _ hb
  have r:RowB (Ii.put b (.cells (xs.flatMap enc++ex).toArray e')) b xs:=⟨e',ex,C1 _ _ _⟩
  refine r.slF fun k x hk=>?_
  by_cases c:k=b
  ·subst c
   rw [C1] at hk
   rw [h1];exact hk
  ·rw [B6 _ _ c] at hk;cases hk
theorem Pg(E:Nat->Rat)(n:Nat):Ze E n=dt n (mtx E n):=B4z n (mtx E n)
theorem B6a{B:Nat}{f:Nat->Rat}: ∀ n,(∀ i,i<n->Sz B (f i))->Sz (1+n*B) (pr n f):=by
 intro n
 induction n with
 | zero=>intro _;exact (⟨ZB.one (by omega),ZB.one (by omega)⟩:Sz (1+0*B) 1)
 | succ n ih=>
  intro h
  have e:1+(n+1)*B=1+n*B+B:=by rw [Nat.add_mul];omega
  rw [e]
  exact (ih fun i hi=>h i (by omega)).mul (h n (by omega))
theorem A6h{E:Nat->Rat}{n m:Nat}(hs:∀ i,i<n*n->Sz m (E i)):Sz (1+3^n*bnd n m+(1+n*bnd n m)) (Ze E n):=by
 by_cases c:(elE E n n n).cs.length=n
 ·rw [<- A6i E c]
  have hzb:=A65 (E:=E) (rows:=n) (c:=n) hs (B8j _)
  have hbd:=Ux E n n n (bnd n m)
  have hB:1<=3^(elP E n n n).cs.length*bnd n m:=Mz _ _ (by unfold bnd;omega)
  have sl:Sz (3^n*bnd n m) ((elP E n n n).last:Rat):=(Sz.int hzb.last hB).mono hbd
  have hsg:=(Ie n ⟨Wo E n,A2l E n,[],1,1⟩ (show (1:Int)≠0 by decide) (.inl rfl) (Nat.zero_le _) n).2.1
  have hsg':(elP E n n n).sgn=1\/(elP E n n n).sgn= -1:=hsg
  have ss:Sz 1 ((elP E n n n).sgn:Rat):=by
   rcases hsg' with e|e
   ·rw [e];exact Sz.int (by unfold ZB;decide) (B8j 1)
   ·rw [e];exact Sz.int (by unfold ZB;decide) (B8j 1)
  exact (ss.mul sl).div (B6a n fun i hi=>hzb.S i hi) (by omega)
 ·have:Ze E n=0:=by
   have hl:(elE E n n n).cs.length<=n:=by
    rw [<- B2r E (B8j n)];exact B0w E n n n
   unfold Ze
   rw [if_pos (by omega)]
  rw [this]
  exact Sz.zero (by omega)
section
variable {h:Heap} {A B:Option Addr} {na nb ca cb:Nat} {r c r2 c2 z:Int} {la lb:Nat->List UInt8}
theorem B07{n m:Nat}{r c:Int}{ls:Nat->List UInt8}(sm:Small r c n ls 5 8)(hm:m=32):(∀ i,i<n->(ls i).length<=100000000)/\(∀ i,i<n->Sz m (rv (ls i)))/\n<=1000000/\∀ rows cols,MOk r c n ls rows cols->rows<=5/\cols<=5:=by
 subst hm
 refine ⟨fun i hi=>by have:=sm.hl i hi;omega,fun i hi=>B27 (k:=8) (by have:=sm.hl i hi;omega) (by omega),by have:=sm.hn;omega,fun rows cols mk=>⟨by have:=mk.er;have:=sm.hr;omega,by have:=mk.ec;have:=sm.hc;omega⟩⟩
theorem B60{q m B:Nat}(h:q<=5)(hB:bnd 5 m=B):3^q*bnd q m<=243*B/\bnd q m<=B/\q*bnd q m<=5*B:=by
 have h1:bnd q m<=B:=by
  have:q*m<=5*m:=Nat.mul_le_mul_right _ h
  rw [<- hB];unfold bnd;omega
 exact ⟨B8g (Nat.pow_le_pow_right (show 3>0 by decide) h) h1,h1,B8g h h1⟩
theorem law_matrixDeterminant(gl:Gl h)(sa:RowV SSr h A na la)(sb:RowV SSr h B nb lb):FCall prog V9 #[A09 r c A na ca,A09 r2 c2 B nb cb,I z] h (B77 h):=by
 refine Fh _ _ _ _ _ _ _ _ _ _ _ ?_
 unfold At
 have aw:∀ h',h.le h'->FCall prog P2 #[] h' (fun r hp=>∃ t,r= .bool t/\B77 h (.bool t) hp):=fun h' l=>A3a (gl.mono l) fun h'' l''=>⟨_,rfl,rfl,B0 l l''⟩
 have aw0:=aw h (B4 _)
 refine Og sa (by omega) (fun sma=>⟨_,rfl,Br.nt ?_⟩) (fun _=>⟨_,rfl,Yz aw0⟩)
 refine Og sb (by omega) (fun smb=>⟨_,rfl,Br.nt ?_⟩) (fun _=>⟨_,rfl,Yz aw0⟩)
 obtain ⟨hl,hs,hn,hrc⟩:=B07 sma rfl
 obtain ⟨hl2,hs2,hn2,hrc2⟩:=B07 smb rfl
 refine Oc gl sa hn hl (fun mxa=>⟨_,rfl,Br.nt ?_⟩) (fun _=>⟨_,rfl,Yz aw0⟩)
 refine Oc gl sb hn2 hl2 (fun mxb=>⟨_,rfl,Br.nt ?_⟩) (fun _=>⟨_,rfl,Yz aw0⟩)
 refine H9 (fun _=>aw0) (fun er=>?_)
 refine H9 (fun _=>aw0) (fun er2=>?_)
 refine H9 (fun _=>aw0) (fun er3=>?_)
 obtain ⟨q,q',mk⟩:=mxa
 obtain rfl:q'=q:=by have:=mk.er;have:=mk.ec;omega
 obtain ⟨q1,q2,mk2⟩:=mxb
 obtain rfl:q1=q':=by have:=mk.er;have:=mk2.er;omega
 obtain rfl:q2=q1:=by have:=mk.er;have:=mk2.ec;omega
 have hq5:=(hrc _ _ mk).1
 have hq1:=mk.r1
 have hqq:q2*q2<=5*5:=B8g hq5 hq5
 have b32:=B60 (m:=32) hq5 rfl
 have e32:bnd 5 32=193:=by decide
 have e326:bnd 5 326=1957:=by decide
 have hbA:∀ rows cols,MOk r c na la rows cols->70*(3^cols*bnd cols 32)+100<=40000000:=fun rows cols mk=>by
  have:=(B60 (m:=32) (hrc _ _ mk).2 rfl).1;omega
 have hbB:∀ rows cols,MOk r2 c2 nb lb rows cols->70*(3^cols*bnd cols 32)+100<=40000000:=fun rows cols mk=>by
  have:=(B60 (m:=32) (hrc2 _ _ mk).2 rfl).1;omega
 have uq:∀ {a b:Nat} {f:Nat->List UInt8} {k:Nat},MOk r c2 k f a b->a=q2/\b=q2:=fun m=>by have:=m.er;have:=m.ec;have:=mk.er;omega
 refine Il gl sa hn hl hs hbA ?_ (fun _ hne=>absurd er hne) (fun hno=>absurd ⟨_,_,mk⟩ hno)
 intro qa mka h1 l1
 obtain rfl:qa=q2:=by have:=mka.er;have:=mk.er;omega
 refine ⟨_,_,rfl,?_⟩
 refine Il (gl.mono l1) (sb.mono Od l1) hn2 hl2 hs2 hbB ?_ (fun _ hne=>absurd (by omega) hne) (fun hno=>absurd ⟨_,_,mk2⟩ hno)
 intro qb mkb h2 l2
 obtain rfl:qb=qa:=by have:=mkb.er;have:=mk.er;omega
 refine ⟨_,_,rfl,?_⟩
 have l02:=B0 l1 l2
 refine A2w (m:=32) (d:=5) (gl.mono l02) (sa.mono Od l02) (sb.mono Od l02) hn hn2 hl hl2 hs hs2 (by omega) (fun rows mid m=>(hrc rows mid m).2) (by omega) ?_
 intro o ho A3 c3 h3 l3 r3
 rcases MulO.ok mk mk2 ho with ⟨_,_,rfl⟩|⟨hne,_⟩
 rotate_left
 ·exact absurd rfl hne
 refine ⟨_,_,_,_,_,_,rfl,?_⟩
 have l03:=B0 l02 l3
 have pz:∀ i,i<qb*qb->Sz 326 (rv (Tu la qb lb qb i)):=fun i hi=>(A1j mk mk2 hs hs2 i hi).mono (by omega)
 have pl:∀ i,i<qb*qb->(Tu la qb lb qb i).length<=100000000:=fun i hi=>B8z (A4z mk mk2 hs hs2 i hi) (by omega)
 have mk3:MOk r c2 (qb*qb) (Tu la qb lb qb) qb qb:=mk.prod mk2
 refine Il (m:=326) (gl.mono l03) r3 (by show qb*qb<=1000000;omega) pl pz ?_ ?_ (fun _ hne=>absurd (show r=c2 by omega) hne) (fun hno=>absurd ⟨_,_,mk3⟩ hno)
 ·intro rows cols m
  have:=(B60 (q:=cols) (m:=326) (by have:=uq m;omega) rfl).1
  omega
 intro qc mkc h4 l4
 obtain rfl:qc=qb:=(uq mkc).1
 refine ⟨_,_,rfl,?_⟩
 have l04:=B0 l03 l4
 refine H9 (fun e=>absurd rfl e) (fun _=>H9 (fun e=>absurd rfl e) (fun _=>H9 (fun e=>absurd rfl e) (fun _=>H9 (fun e=>absurd rfl e) (fun _=>?_))))
 have zA:Sz 50000 (Ze (rvs la) qc):=(A6h (m:=32) fun i hi=>hs i (by rw [mk.len];exact hi)).mono (by have:=b32.1;have:=b32.2.2;omega)
 have zB:Sz 50000 (Ze (rvs lb) qc):=(A6h (m:=32) fun i hi=>hs2 i (by rw [mk2.len];exact hi)).mono (by have:=b32.1;have:=b32.2.2;omega)
 refine A4h (m:=50000) (gl.mono l04) (Tx.of zA (by omega)) (Tx.of zB (by omega)) (by omega) ⟨_,rfl,?_⟩
 rw [Pk]
 have eprod:Ze (rvs (Tu la qc lb qc)) qc=Ze (rvs la) qc*Ze (rvs lb) qc:=by
  rw [Pg,Pg,Pg,<- B50]
  exact H1 fun a b _ hb=>A4y la qc lb hb
 refine R6 (B7 (fun _=>?_) (fun e=>absurd (by rw [Af,Af,eprod]) e))
 refine A5m ?_
 intro k0 hk0
 refine ⟨_,rfl,?_⟩
 refine Qr hk0 ?_
 intro p hp hpb
 have hp2:=hp.1
 refine ⟨_,_,rfl,Br.nt ?_⟩
 obtain ⟨hr',hc',_,_,_,_,hlen,hnum⟩:=id mk
 have ecq:c=(qc:Int):=hc'
 have erq:r=(qc:Int):=hr'
 have xq:∀ a b,a<qc->b<qc->∃ x,la (a*qc+b)=N8 x/\rvs la (a*qc+b)=x:=fun a b ha hb=>by
  obtain ⟨x,hx⟩:=hnum (a*qc+b) (by rw [hlen];exact Y7 ha hb)
  exact ⟨x,hx,by show rv (la _)=x;rw [hx,Af]⟩
 refine ⟨fun L hp'=>∃ (i:Nat) (g o:Heap) (hd:List HV) (Y:Nat->Nat->Nat) (A':Option Addr) (c':Nat),i<=qc/\L=[.slice A' i c',I (i:Int)]/\h4.le g/\Sep hp' g o/\OwnSl o Ci A' c' hd/\hd.length=i/\(∀ a,a<i->∃ s,hd[a]? = some s/\RWi qc g s (Y a))/\∀ a j,a<i->j<qc->Y a j<p/\Zq p (mtx (rvs la) qc a j)/\Cg p (mtx (rvs la) qc a j) (((Y a j:Nat):Int):Rat),fun L _=>qc-(iAt L 1).toNat,⟨0,h4,Ii,[],fun _ _=>0,none,0,by omega,rfl,B4 _,Sep.refl _,OwnSl.nil,rfl,fun a ha=>by omega,fun a j ha=>by omega⟩,?_⟩
 rintro rA rn rc z1 hx ⟨i,g,o,hd,Y,A',c',hi,eL,lg,s,ow,hhd,hrows,hY⟩
 obtain ⟨⟨rfl,rfl,rfl⟩,rfl⟩:=sI2 eL
 have l0x:=B0 l04 (B0 lg s.le)
 rw [erq]
 refine B7 (fun hlt=>?_) (fun hge=>?_)
 rotate_left
 ·have eq:rn=qc:=by omega
  subst eq
  have rr:RowV (RWi rn) hx rA rn Y:=⟨hd,ow.slF s.ole,hhd,fun a ha=>by
   obtain ⟨u,h1,h2⟩:=hrows a ha
   exact ⟨u,h1,B0k rn _ _ _ _ s.le h2⟩⟩
  refine A53 hp (by omega) rr hq1 (by omega) (fun a j ha hj=>(hY a j ha hj).1) ?_
  intro d hd' cd h5 l5
  refine ⟨_,_,rfl,?_⟩
  have zd:Zq p (Ze (rvs la) rn):=by rw [Pg];exact B2u hp fun a j ha hj=>(hY a j ha hj).2.1
  have l05:=B0 l0x l5
  refine Lc (m:=50000) (gl.mono l05) hp (by omega) (B8z (Mv zA) (by omega)) zA (by omega) ?_ (fun hno=>absurd zd hno)
  intro e he _ ce h6 l6
  refine ⟨_,_,rfl,?_⟩
  have cc:Cg p (dt rn (mtx (rvs la) rn)) (dt rn (XR Y)):=B51 hp fun a j ha hj=>⟨(hY a j ha hj).2.1,Zq.int hp _,(hY a j ha hj).2.2⟩
  rw [Pg] at ce
  have ede:d=e:=Cg.eq hp hd' he (Cg.trans hp (Cg.symm cd) (Cg.trans hp (Cg.symm cc) ce))
  refine D9 (fun _=>?_) (fun x=>absurd rfl x)
  show Br true _ _
  exact D9 (fun _=>aw h6 (B0 l05 l6)) (fun x=>absurd (by rw [ede]) x)
 have hin:rn<qc:=by omega
 have ew:∀ {i:Nat},i<qc->B5 ((i:Int)+1)=((i+1:Nat):Int):=fun {i} hi=>by rw [B8]<;>omega
 refine ⟨fun L hy=>∃ (k:Nat) (g' o':Heap) (ys:List Int) (y:Nat->Nat) (A':Option Addr) (c':Nat),k<=qc/\L=[.slice A' k c',I (k:Int)]/\g.le g'/\Sep hy g' o'/\OwnSl o' Ci rA rc hd/\OwnSl o' I6 A' c' ys/\ys.length=k/\(∀ b,rA=some ⟨b,0,none⟩->A'≠some ⟨b,0,none⟩)/\(∀ j,j<k->ys[j]? = some (y j:Int))/\∀ j,j<k->y j<p/\Zq p (mtx (rvs la) qc rn j)/\Cg p (mtx (rvs la) qc rn j) (((y j:Nat):Int):Rat),fun L _=>qc-(iAt L 1).toNat,⟨0,g,o,[],fun _=>0,none,0,by omega,rfl,B4 _,s,ow,OwnSl.nil,rfl,(fun b _ e=>by cases e),fun j hj=>by omega,fun j hj=>by omega⟩,?_⟩
 rintro wA wn wc z2 hy ⟨k,g',o',ys,y,A',c',hk,eL,lg',s',ow',owr,hyl,hap,hys,hyf⟩
 obtain ⟨⟨rfl,rfl,rfl⟩,rfl⟩:=sI2 eL
 have l0y:=B0 l04 (B0 lg (B0 lg' s'.le))
 rw [ecq]
 refine B7 (fun hlt2=>?_) (fun hge2=>?_)
 ·have hkq:wn<qc:=by omega
  have hidx:=Y7 hin hkq
  obtain ⟨u,eu,hcu⟩:=(sa.mono Od l0y).sat (i:=rn*qc+wn) (by rw [hlen];exact hidx)
  obtain ⟨x,ex,ex2⟩:=xq rn wn hin hkq
  rw [ex] at hcu
  have eix:B5 (B5 ((rn:Int)*(qc:Int))+(wn:Int))=((rn*qc+wn:Nat):Int):=by
   rw [<- B8p,Cc (by omega)]
   exact Cc (n:=rn*qc+wn) (by omega)
  rw [eix]
  refine ⟨u,eu,by omega,by omega,_,hcu,?_⟩
  have zx:Sz 32 x:=by
   have:=hs (rn*qc+wn) (by rw [hlen];exact hidx)
   rw [ex,Af] at this;exact this
  have exm:mtx (rvs la) qc rn wn=x:=ex2
  refine s'.call (Lc (m:=32) (gl.mono (B0 l04 (B0 lg lg'))) hp (by omega) (B8z (Mv zx) (by omega)) zx (by omega) ?_ ?_)
  ·intro e he ze ce g5 l5 h5 s5
   refine ⟨_,_,rfl,Br.nt ?_⟩
   refine Aa (ty:=Tf) (n:=wn) B22 s5 owr hyl.symm (y:=(e:Int)) rfl (by decide) (by omega) (by omega) ?_
   intro A6 c6 h6 g6 o6 l6 s6 ow6 kp
   rw [hyl,ew hkq]
   refine ⟨⟨wn+1,g6,o6,_,fun j=>if j=wn then e else y j,A6,c6,by omega,rfl,B0 lg' (B0 l5 l6),s6,ow'.keep (fun b x hA hx=>(kp b x hx (hap b hA)).1),ow6,by rw [B8l,hyl];rfl,fun b hA=>?_,fun j hj=>?_,fun j hj=>?_⟩,?_⟩
   ·rcases ow'.2 with ⟨_,h0⟩|⟨b',arr,hA',hb',_⟩
    ·rw [h0] at hA;cases hA
    ·have:b'=b:=by rw [hA'] at hA;simpa using hA
     subst this
     exact (kp b' _ hb' (hap b' hA')).2
   ·show (ys++[(e:Int)])[j]? = some (((if j=wn then e else y j:Nat)):Int)
    by_cases c1:j=wn
    ·rw [c1,B8t (by omega),hyl,Nat.sub_self,if_pos rfl];rfl
    ·rw [B8v (by omega),if_neg c1];exact hys j (by omega)
   ·show (if j=wn then e else y j)<p/\_/\Cg p _ ((((if j=wn then e else y j:Nat)):Int):Rat)
    by_cases c1:j=wn
    ·rw [if_pos c1,c1,exm];exact ⟨he,ze,ce⟩
    ·rw [if_neg c1];exact hyf j (by omega)
   ·show qc-((wn+1:Nat):Int).toNat<qc-((wn:Nat):Int).toNat
    omega
  ·intro _ g5 l5 h5 s5
   exact ⟨_,_,rfl,Yz (aw h5 (B0 (B0 l04 (B0 lg (B0 lg' l5))) s5.le))⟩
 ·have ekq:wn=qc:=by omega
  subst ekq
  obtain ⟨g5,o5,l5,s5,sl5,k5⟩:=owr.give s'
  have hwc:wn<=wc:=by have:=owr.1;omega
  have ow5:OwnSl o5 Ci rA rc hd:=ow'.keep fun b x hA hx=>k5 b x (hap b hA) hx
  refine Aa (ty:=Wg) (n:=rn) B44 s5 ow5 hhd.symm (y:=(⟨wA,wn,wc⟩:HV)) rfl (by decide) (by omega) (by omega) ?_
  intro A6 c6 h6 g6 o6 l6 s6 ow6 _
  rw [hhd,ew hin]
  have l56:=B0 l5 l6
  refine ⟨⟨rn+1,g6,o6,_,fun a=>if a=rn then y else Y a,A6,c6,by omega,rfl,B0 lg (B0 lg' l56),s6,ow6,by rw [B8l,hhd];rfl,fun a ha=>?_,fun a j ha hj=>?_⟩,?_⟩
  ·show ∃ s,(hd++[(⟨wA,wn,wc⟩:HV)])[a]? = some s/\RWi wn g6 s (if a=rn then y else Y a)
   by_cases e:a=rn
   ·rw [if_pos e]
    refine ⟨_,by rw [e,B8t (by omega),hhd,Nat.sub_self];rfl,rfl,hwc,ys,sl5.mono l6,hyl,fun j hj=>⟨_,hys j hj,rfl⟩⟩
   ·rw [if_neg e]
    obtain ⟨u,f1,f2⟩:=hrows a (by omega)
    exact ⟨u,by rw [B8v (by omega)];exact f1,B0k wn _ _ _ _ (B0 lg' l56) f2⟩
  ·show (if a=rn then y else Y a) j<p/\_/\Cg p _ (((((if a=rn then y else Y a) j:Nat)):Int):Rat)
   by_cases e:a=rn
   ·rw [if_pos e,e];exact hyf j hj
   ·rw [if_neg e];exact hY a j (by omega) hj
  ·show wn-((rn+1:Nat):Int).toNat<wn-((rn:Nat):Int).toNat
   omega
end
end Go.Proofs.YtajkakhfcokljaaGreatDoor
namespace Go.Proofs.YtajkakhfcokljaaGreatDoor
set_option maxRecDepth 20000
open Go Go.RowKit
theorem B59(s:ByteArray):bs s.data.toList=s:=by
 cases s;simp [bs]
theorem A59{H:Type}{enc:TypeId × Value->H}{P:Program}{W:World}{base:Nat}{sp:Nat->Bool}{held:Bool}{t e:TypeId}{fuel:Nat}{A:Option Addr}{len cap:Nat}{x:DataW H × List MemPlace}(ht:P.underlying t=some (.slice e))(he:P.underlying e=some .string)(hc:P.cellsOf e=1)
 (hf:DataW.trod enc P W base sp held fuel t [.slice A len cap]=some x):∃ ls:Nat->List UInt8,RowV SSr (memOf W) A len ls/\len<=maxLen:=by
 rcases Deep.open_strs ht he hc hf with ⟨hcs,_⟩|⟨a,l,c,m,Sx,hcs,_,hl,hm,hmm,_,hcell⟩
 ·simp at hcs
  obtain ⟨rfl,rfl,rfl⟩:=hcs
  exact ⟨fun _=>[],RowV.nil,Nat.zero_le _⟩
 ·simp at hcs
  obtain ⟨rfl,rfl,rfl⟩:=hcs
  have hlm:len<=m:=by rw [hmm];split<;>omega
  have sl:SlV (memOf W) (some a) (((List.range len).map fun i=>(Sx i).data.toList).map fun l=>Value.string (bs l)):=by
   refine .inr ⟨a,rfl,fun i v hv=>?_⟩
   rw [List.getElem?_map,List.getElem?_map] at hv
   by_cases hi:i<len
   ·rw [List.getElem?_range hi] at hv
    simp only [Option.map_some,Option.some.injEq,B59] at hv
    rw [<- hv]
    exact Kb (hcell i (by omega)).1
   ·rw [List.getElem?_eq_none (by simpa using hi)] at hv;cases hv
  have:=If sl
  rw [List.length_map,List.length_range] at this
  exact ⟨_,this,by omega⟩
theorem open_mat{H:Type}{enc:TypeId × Value->H}{P:Program}{W:World}{base:Nat}{sp:Nat->Bool}{held:Bool}{r:Reach}{b0:Nat}{t e:TypeId}{f0 f1 f2:Field}{v:Value}{d:DataW H}{ps:List MemPlace}(ht:P.underlying t=some (.struct #[f0,f1,f2]))(u0:P.underlying f0.type=some (.int .i64))(u1:P.underlying f1.type=some (.int .i64))(u2:P.underlying f2.type=some (.slice e))(ue:P.underlying e=some .string)
 (hoff:f0.offset=0/\f1.offset=1/\f2.offset=2/\P.cellsOf f0.type=1/\P.cellsOf f1.type=1/\P.cellsOf f2.type=1/\P.cellsOf t=3/\P.cellsOf e=1)
 (hval:Value.okWide P W r b0 t v) (hd:DataW.Trod enc P W base sp held t v d ps):∃ (x y:Int) (A:Option Addr) (len cap:Nat) (ls:Nat->List UInt8),v= .agg #[.int .i64 x,.int .i64 y,.slice A len cap]/\RowV SSr (memOf W) A len ls/\len<=maxLen:=by
 obtain ⟨o0,o1,o2,c0,c1,c2,ct,ce⟩:=hoff
 obtain ⟨cs,rfl,hcs⟩:=WideShapes.okWide_struct ht hval
 obtain ⟨fuel,hf⟩:=hd
 obtain ⟨y0,y1,y2,n,hx,hl,g0,g1,g2⟩:=Deep.trod_struct3 ht hf
 rw [o0,c0] at g0
 rw [o1,c1] at g1
 rw [o2,c2] at g2
 obtain ⟨s0,e0,_,_⟩:=DataW.trod_int u0 g0
 obtain ⟨s1,e1,_,_⟩:=DataW.trod_int u1 g1
 rw [ct] at hcs
 have hlen:cs.toList.length=3:=by simpa using hcs
 obtain ⟨p,q,z,hm⟩:∃ p q z,cs.toList=[p,q,z]:=by
  match h:cs.toList,hlen with
  | [p,q,z],_=>exact ⟨p,q,z,rfl⟩
 simp only [Value.cells] at e0 e1 g2
 rw [hm] at e0 e1 g2
 simp at e0 e1 g2
 have hA:∃ A len cap,z= .slice A len cap:=by
  rcases Deep.open_strs u2 ue ce g2 with ⟨hcs,_⟩|⟨a,l,c,m,Sx,hcs,_⟩
  ·simp at hcs;exact ⟨_,_,_,hcs⟩
  ·simp at hcs;exact ⟨_,_,_,hcs⟩
 obtain ⟨A,len,cap,rfl⟩:=hA
 obtain ⟨ls,hr,hml⟩:=A59 u2 ue ce g2
 have:cs=#[.int .i64 s0,.int .i64 s1,.slice A len cap]:=by rw [<- Array.toArray_toList (xs:=cs),hm,e0,e1]
 exact ⟨s0,s1,A,len,cap,ls,by rw [this],hr,hml⟩
end Go.Proofs.YtajkakhfcokljaaGreatDoor
