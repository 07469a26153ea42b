/-
  Texts of this proof, merged by a program of ours.
-/
import Derived.Test.YtajkakhfcokljaaGreatDoorG16
import Derived.Test.YtajkakhfcokljaaGreatDoorG17
import Derived.Test.YtajkakhfcokljaaGreatDoorG11
open Go.Proofs.Tryz
set_option linter.all false
open Int renaming mul_le_mul_of_nonneg_right->C34,sign_eq_one_of_pos->C35,natAbs_natCast->C36,sign_eq_neg_one_of_neg->C37,le_of_lt->C38,natAbs_of_nonneg->C3d,natAbs_neg->C3e,gcd->C3f,toNat_natCast->C3g,natCast_mul->C3h,mul_ne_zero->C3i,toNat_of_nonneg->C3l,mul_one->C3m,gcd_dvd_right->C3o,mul_comm->C3p,natCast_ediv->C3t,mul_le_mul_of_nonneg_left->C3u,mul_lt_mul_of_pos_right->C3y,tmod_eq_emod_of_nonneg->C40,natAbs_mul->C41
open List renaming append_assoc->C3a,length_append->C3n,take_length->C3r,eq_nil_of_length_eq_zero->C3s,nil_append->C3x,exists_cons_of_ne_nil->C3z
open Nat renaming pow_pos->C3b,pow_succ->C3c,mul_le_mul_left->C3j,le_refl->C3k,strongRecOn->C3v,min_eq_left->C3w
open Rat renaming divInt->C39,divInt_ofNat->C3q
namespace Go.Proofs.YtajkakhfcokljaaGreatDoor
set_option maxRecDepth 20000
open Go
section
variable {h g:Heap} {K:VP} {A B:Option Addr} {ac bc:Nat}
theorem B6h{P:Program}{t e:TypeId}{z:Value}{bytes:Nat}(s:SliceT P t e z 1 bytes){u v:Value}(hu:u.cells=#[u])(hv:v.cells=#[v]){K:VP}{h:Heap}
 (x:∀ b,h b=none->K (.slice (some ⟨b,0,none⟩) 2 2) (h.put b (.cells #[u,v] e))):wpH P (Instr.buildSlice t 2 #[(0,u),(1,v)]) K h:=by
 refine Aw s (by omega) (cells:=#[u,v]) ?_ x
 have hsz:(F0 z.cells 2).size=2:=by simp [F0,s.cells]
 have:F0 z.cells 2=#[(F0 z.cells 2)[0]'(by omega),(F0 z.cells 2)[1]'(by omega)]:=by
  apply Array.ext
  ·simpa using hsz
  ·intro i h1 h2
   match i with
   | 0=>rfl
   | 1=>rfl
   | i+2=>simp at h2;omega
 rw [this]
 simp [Instr.fill,hu,hv]
theorem Ax{B:Int}(hB:0<B){xs:List Int}(d:Dig B xs){m:Nat}(hl:xs.length=m+1):val B xs<(xs.getD m 0+1)*B^m/\xs.getD m 0*B^m<=val B xs:=by
 have h1:=F9 B xs m
 rw [show m+1=xs.length by omega,C3r] at h1
 have h2:=K6 hB (d.take m)
 have h3:=C7 hB (d.take m)
 rw [List.length_take,C3w (by omega)] at h2
 have e1:(xs.getD m 0+1)*B^m=B^m*xs.getD m 0+B^m:=by grind
 have e2:xs.getD m 0*B^m=B^m*xs.getD m 0:=C3p _ _
 omega
theorem Zs{xs:List Int}{m:Nat}(hl:xs.length=m+1)(hn:Norm xs):xs.getD m 0≠0:=by
 intro e0
 have e:=Fn (xs:=xs) (i:=m) (by omega)
 rw [<- hl,C3r,e0] at e
 apply hn
 rw [e];simp
theorem Sd{x y:Int}{an bn:Nat}(ma:Mg h A an x)(mb:Mg h B bn y)(hy:y≠0)(hl:an<=100000000)(hl2:bn<=100000000)
 (hK:∀ A1 m1 c1 A2 m2 c2 h',h.le h'->m1<=c1->m2<=c2->Mg h' A1 m1 (x/y)->Mg h' A2 m2 (x%y)->K (.tuple #[.slice A1 m1 c1,.slice A2 m2 c2]) h'):FCall prog Kx #[.slice A an ac,.slice B bn bc] h K:=by
 have hx0:=ma.nonneg (by decide)
 have hy0:=mb.nonneg (by decide)
 have hb0:=mb.len_zero (by decide)
 have ha1:=ma.lt (by decide)
 have hb1:=mb.lt (by decide)
 refine A6r _ _ _ _ _ _ ?_
 unfold B0y
 refine Si ma mb (by omega) ⟨_,rfl,B6 (fun h1=>?_) (fun h1=>D9 (fun h2=>?_) (fun h2=>?_))⟩
 ·have hlt:x<y:=by
   by_cases hc:x<y
   ·exact hc
   ·rw [if_neg hc] at h1
    by_cases hc2:x>y
    ·rw [if_pos hc2] at h1;omega
    ·rw [if_neg hc2] at h1;omega
  rw [Int.ediv_eq_zero_of_lt hx0 hlt,Int.emod_eq_of_lt hx0 hlt] at hK
  obtain ⟨xs,rfl,sx,dx,nx,rfl⟩:=ma
  refine A8m Mo ?_
  intro b hb
  refine ⟨_,_,_,rfl,?_⟩
  have hle:=Heap.le_put (h:=h) (b:=b) (.cells #[] C4) hb
  have sx':=SlI.mono hle sx
  refine Ln Mo (Priv.nil _ _ _ _) (ys:=xs.map (Value.int .u32)) (by simp) sx' (fun v hv=>?_) (by omega) (by omega) ?_
  ·obtain ⟨a,_,rfl⟩:=List.mem_map.1 hv;rfl
  ·intro A' c' h' g' hg hp
   rw [C3x] at hp
   have hs:=hp.slV
   simp only [Nat.zero_add] at hp ⊢
   exact ⟨_,_,_,rfl,hK none 0 0 A' xs.length c' h' (B0 hle (B0 hg hp.le)) (C3k _) hp.2.1 Mag.zero ⟨xs,rfl,hs,dx,nx,rfl⟩⟩
 ·obtain ⟨ys,rfl,sy,dy,ny,rfl⟩:=mb
  have h2':ys.length=1:=by omega
  obtain ⟨d,rfl⟩:∃ d,ys=[d]:=by
   cases ys with
   | nil=>simp at h2'
   | cons d r=>
    cases r with
    | nil=>exact ⟨d,rfl⟩
    | cons _ _=>simp at h2'
  rw [T3] at hy hy0 hK
  have hd:=dy d (by simp)
  refine sy.load rfl (by omega) (by simp) ?_
  show FCall _ _ #[_,U32 d] _ _
  refine Jy ma ⟨by omega,hd.2⟩ hl ?_
  intro A' m c' h' hle hm hmn hM
  refine ⟨_,_,_,_,rfl,?_⟩
  refine Y7 Mo rfl ?_
  intro b hb
  refine ⟨_,_,_,rfl,?_⟩
  have hle2:=Heap.le_put (h:=h') (b:=b) (.cells #[U32 (x%d)] C4) hb
  have hr:0<=x%d/\x%d<4294967296:=by
   have h3:=Int.emod_nonneg x (show d≠0 by omega)
   have h4:=Int.emod_lt_of_pos x (show 0<d by omega)
   have h5:=hd.2
   show _/\_<b32
   omega
  refine V4 (xs:=[x%d]) (SlI.new h' b [x%d] C4 _) (Dig.one hr) (C3k _) (by simp) ?_
  intro m2 hm2 hM2
  rw [T3] at hM2
  exact ⟨_,_,_,rfl,hK _ _ _ _ _ _ _ (B0 hle hle2) hm (by simpa using hm2) (hM.mono hle2) hM2⟩
 ·have hge:y<=x:=by
   by_cases hc:x<y
   ·rw [if_pos hc] at h1;omega
   ·omega
  have hbn:bn<=an:=mb.len_le (by decide) (Int.lt_of_le_of_lt hge ha1)
  obtain ⟨xs,rfl,sx,dx,nx,rfl⟩:=ma
  obtain ⟨ys,rfl,sy,dy,ny,rfl⟩:=mb
  obtain ⟨mm,hmm⟩:∃ mm,ys.length=mm+2:=⟨ys.length-2,by omega⟩
  have gt:=Au dy (mm+1)
  have ht0:=Zs (m:=mm+1) hmm ny
  obtain ⟨hyt,hyt2⟩:=Ax (B:=b32) (by decide) dy (m:=mm+1) hmm
  unfold A1i
  refine ⟨fun l h'=>∃ s:Nat,l=[U s]/\h'=h/\s<32/\ys.getD (mm+1) 0*2^s<4294967296,fun l _=>32-(iAt l 0).toNat,⟨0,rfl,rfl,by omega,by rw [Int.pow_zero,C3m];exact gt.2⟩,?_⟩
  rintro si hp6 ⟨s,hl1,rfl,hs,hts⟩
  obtain rfl:=sI1 hl1
  have e1:B5 ((ys.length:Int)-1)=((mm+1:Nat):Int):=by rw [B7 (by omega) (by omega)];omega
  rw [e1]
  refine sy.load rfl (by omega) (by omega) ?_
  refine B6 (fun e=>absurd e (by omega)) (fun _=>?_)
  have hps:0<(2:Int)^s:=Int.pow_pos (by decide)
  have hge1:2^s<=ys.getD (mm+1) 0*2^s:=by
   have:=C34 (show 1<=ys.getD (mm+1) 0 by omega) (C38 hps);omega
  have e2:F4 (ys.getD (((mm+1:Nat):Int)).toNat 0*2^(min ((s:Int)).toNat 32))=ys.getD (mm+1) 0*2^s:=by
   rw [C3g,C3g,C3w (by omega),N5 (by omega) hts]
  refine B6 (fun h3=>?_) (fun h3=>?_)
  ·rw [e2] at h3
   have hs31:s+1<32:=by
    by_cases hc:s+1<32
    ·exact hc
    ·have:s=31:=by omega
     subst this
     have:(2:Int)^31=2147483648:=by decide
     omega
   have e3:C0 ((s:Int)+1)=((s+1:Nat):Int):=by rw [C2 (by omega) (by omega)];omega
   rw [e3]
   refine ⟨⟨s+1,rfl,rfl,hs31,?_⟩,by simp only [iAt,List.getElem?_cons_zero];omega⟩
   rw [Int.pow_succ,<- Int.mul_assoc];omega
  ·rw [e2] at h3
   have hY1:val b32 ys*2^s<b32^(mm+2):=by
    have hsp:=Ju (Nat.le_of_lt hs)
    have t1:ys.getD (mm+1) 0+1<=2^(32-s):=by
     by_cases hc:ys.getD (mm+1) 0+1<=2^(32-s)
     ·exact hc
     ·have:=C34 (show (2:Int)^(32-s)<=ys.getD (mm+1) 0 by omega) (C38 hps)
      rw [C3p,hsp] at this;omega
    have t2:val b32 ys*2^s<(ys.getD (mm+1) 0+1)*b32^(mm+1)*2^s:=C3y hyt hps
    have t3:(ys.getD (mm+1) 0+1)*b32^(mm+1)*2^s=(ys.getD (mm+1) 0+1)*2^s*b32^(mm+1):=by grind
    have t4:(ys.getD (mm+1) 0+1)*2^s*b32^(mm+1)<=4294967296*b32^(mm+1):=by
     apply C34 _ (C38 (D6 (by decide) _))
     rw [<- hsp,C3p (2^s)]
     exact C34 t1 (C38 hps)
    rw [Int.pow_succ b32 (mm+1),C3p (b32^(mm+1))]
    show _<(4294967296:Int)*_
    omega
   have hY2:2147483648*b32^(mm+1)<=val b32 ys*2^s:=by
    have t1:ys.getD (mm+1) 0*b32^(mm+1)*2^s<=val b32 ys*2^s:=C34 hyt2 (C38 hps)
    have t2:2147483648*b32^(mm+1)<=ys.getD (mm+1) 0*2^s*b32^(mm+1):=C34 (by omega) (C38 (D6 (by decide) _))
    have t3:ys.getD (mm+1) 0*2^s*b32^(mm+1)=ys.getD (mm+1) 0*b32^(mm+1)*2^s:=by grind
    omega
   refine If sy dy hs (by omega) ?_
   intro bv zv hbv hzvl hdv hvv
   refine ⟨_,_,_,rfl,?_⟩
   rw [<- hzvl]
   refine V4 (Bv _ _ _ _ _) hdv (C3k _) (by omega) ?_
   intro n hn hMv
   refine ⟨_,_,_,rfl,?_⟩
   rw [hvv] at hMv
   have hn2:n=mm+2:=by
    have l1:=hMv.len_le (by decide) hY1
    have l2:=hMv.lt (by decide)
    by_cases hc:n=mm+2
    ·exact hc
    ·have:=D0 (B:=b32) (by decide) (show n<=mm+1 by omega)
     have:=D6 (B:=b32) (by decide) (mm+1)
     omega
   subst hn2
   obtain ⟨vs,hvl,sv,dv,nv,hvv2⟩:=hMv
   have hv1:4294967296<=2*vs.getD (mm+1) 0:=by
    obtain ⟨q1,q2⟩:=Ax (B:=b32) (by decide) dv (m:=mm+1) hvl.symm
    rw [hvv2] at q1
    have:2147483648<vs.getD (mm+1) 0+1:=by
     by_cases hc:2147483648<vs.getD (mm+1) 0+1
     ·exact hc
     ·have:=C34 (show vs.getD (mm+1) 0+1<=2147483648 by omega) (C38 (D6 (B:=b32) (by decide) (mm+1)));omega
    omega
   have hle1:=T0 (k:=.u32) (e:=C4) hbv zv
   refine If (SlI.mono hle1 sx) dx hs (by omega) ?_
   intro bu us hbu hul hdu huv
   refine ⟨_,_,_,rfl,?_⟩
   obtain ⟨nq,hnq⟩:∃ nq,xs.length+1=nq+(mm+2):=⟨xs.length+1-(mm+2),by omega⟩
   have e4:B5 (B5 (B5 (((xs.length+1:Nat):Int)-((mm+2:Nat):Int))-1)+1)=(nq:Int):=by
    rw [B7 (n:=((xs.length+1:Nat):Int)-((mm+2:Nat):Int)) (by omega) (by omega),B7 (n:=_-(1:Int)) (by omega) (by omega),B7 (by omega) (by omega)];omega
   rw [e4]
   refine J3 Mo (by omega) (by omega) (by omega) ?_
   intro bq hbq
   rw [C3g]
   refine ⟨_,_,_,rfl,?_⟩
   have hne:bu≠bq:=by
    rintro rfl
    unfold blk at hbq
    rw [C3] at hbq;cases hbq
   have hbq':blk .u32 C4 hp6 bv zv bq=none:=by
    have:=hbq
    unfold blk at this ⊢
    rwa [B8 _ _ hne.symm] at this
   refine A6b (us0:=us) (N:=xs.length+1) hbu hbq' hne sv dv hvl.symm hv1 hs hvv2 rfl hdu hul huv hnq (by omega) (by omega) ?_ ?_
   ·have s1:=F1 b32 us (i:=nq) (by omega)
    have s2:=C7 (by decide) (hdu.take nq)
    have s3:val b32 us<b32^xs.length*2^s:=by
     rw [huv];exact C3y ha1 hps
    have s4:b32^(mm+1)<=val b32 ys:=by
     have:=C34 (show 1<=ys.getD (mm+1) 0 by omega) (C38 (D6 (B:=b32) (by decide) (mm+1)));omega
    have s5:b32^nq*(b32^(mm+1)*2^s)<=b32^nq*(val b32 ys*2^s):=C3u (C34 s4 (C38 hps)) (C38 (D6 (by decide) nq))
    have s6:b32^nq*(b32^(mm+1)*2^s)=b32^xs.length*2^s:=by
     rw [<- Int.mul_assoc,<- Int.pow_add,show nq+(mm+1)=xs.length by omega]
    by_cases hc:val b32 (us.drop nq)<val b32 ys*2^s
    ·exact hc
    ·have:=C3u (show val b32 ys*2^s<=val b32 (us.drop nq) by omega) (C38 (D6 (B:=b32) (by decide) nq));omega
   ·intro A1 m1 c1 A2 m2 c2 h' hle hm1 hm2 hM1 hM2
    exact hK _ _ _ _ _ _ _ (B0 hle1 hle) hm1 hm2 hM1 hM2
end
def A4w(h:Heap)(A:Option Addr)(len:Nat):List Int:=(List.range len).map fun i=>
 match A with
 | some a=>(match h.cell? (a.add i) with|some (.int _ n)=>n|_=>0)
 | none=>0
def A8g(B:Int)(h:Heap)(A:Option Addr)(len:Nat):Nat:=(val B (A4w h A len)).toNat
theorem A9s{k:IntKind}{h:Heap}{A:Option Addr}{xs:List Int}(s:SlI k h A xs):A4w h A xs.length=xs:=by
 apply List.ext_getElem
 ·simp [A4w]
 ·intro i h1 h2
  obtain ⟨a,ha,hc⟩:=SlV.at s (i:=i) (by simpa using h2)
  subst ha
  simp [A4w,hc]
theorem Y6{k:IntKind}{B:Int}{h:Heap}{A:Option Addr}{len:Nat}{n:Int}(m:Mag k B h A len n):A8g B h A len=n.toNat:=by
 obtain ⟨xs,rfl,s,_,_,rfl⟩:=m
 unfold A8g
 rw [A9s s]
def ZB(m:Nat)(z:Int):Prop:=z.natAbs<2^m
theorem ZB.mono{m n:Nat}{z:Int}(h:ZB m z)(hm:m<=n):ZB n z:=Nat.lt_of_lt_of_le h (Nat.pow_le_pow_right (by decide) hm)
theorem ZB.neg{m:Nat}{z:Int}(h:ZB m z):ZB m (-z):=by unfold ZB at *;rwa [C3e]
theorem ZB.add{m:Nat}{x y:Int}(hx:ZB m x)(hy:ZB m y):ZB (m+1) (x+y):=by
 unfold ZB at *;rw [C3c]
 have:=Int.natAbs_add_le x y;omega
theorem ZB.sub{m:Nat}{x y:Int}(hx:ZB m x)(hy:ZB m y):ZB (m+1) (x-y):=by
 rw [Int.sub_eq_add_neg];exact hx.add hy.neg
theorem ZB.mul{m n:Nat}{x y:Int}(hx:ZB m x)(hy:ZB n y):ZB (m+n) (x*y):=by
 unfold ZB at *;rw [C41,Nat.pow_add]
 have h1:x.natAbs*y.natAbs<=x.natAbs*2^n:=C3j _ (Nat.le_of_lt hy)
 have h2:x.natAbs*2^n<2^m*2^n:=Nat.mul_lt_mul_of_pos_right hx (C3b (by decide))
 omega
theorem ZB.le{m:Nat}{x y:Int}(hx:ZB m x)(h:y.natAbs<=x.natAbs):ZB m y:=Nat.lt_of_le_of_lt h hx
theorem ZB.one{m:Nat}(h:1<=m):ZB m 1:=ZB.mono (m:=1) (by unfold ZB;decide) h
theorem ZB.zero{m:Nat}:ZB m 0:=C3b (by decide)
theorem A8k{k:IntKind}{j:Nat}(hj:0<j){h:Heap}{A:Option Addr}{n m:Nat}{x:Int}(M:Mag k ((2:Int)^j) h A n x)(hx:x<2^m):n<=m/j+1:=by
 refine M.len_le ?_ ?_
 ·have:=D0 (B:=2) (by decide) hj;omega
 ·have e:((2:Int)^j)^(m/j+1)=2^(j*(m/j+1)):=by rw [Int.pow_mul]
  rw [e]
  have:m<=j*(m/j+1):=by
   have h1:=Nat.div_add_mod m j
   have h2:=Nat.mod_lt m hj
   rw [Nat.mul_add];omega
  have:=D0 (B:=2) (by decide) this
  omega
structure NI (h:Heap) (s:Bool) (A:Option Addr) (n c:Nat) (z:Int):Prop where
 mag:Mg h A n (z.natAbs:Int)
 sg:s=decide (z<0)
 cap:n<=c
section
variable {h h':Heap} {K:VP} {A B:Option Addr} {n c n' c':Nat} {s s':Bool} {x y z:Int} {m:Nat}
theorem NI.mono(hl:h.le h')(i:NI h s A n c z):NI h' s A n c z:=⟨i.mag.mono hl,i.sg,i.cap⟩
theorem NI.len(i:NI h s A n c z)(hz:ZB m z)(hm:m<=1000000000):n<=100000000:=by
 have:=A8k (j:=32) (by decide) i.mag (m:=m) (by unfold ZB at hz;have:((z.natAbs:Nat):Int)<((2^m:Nat):Int):=by omega
                                                simpa using this)
 omega
theorem NI.zero_iff(i:NI h s A n c z):n=0↔z=0:=by
 have:=i.mag.len_zero (by decide)
 omega
theorem NI.nil:NI h false A 0 0 0:=⟨Mag.zero,rfl,C3k _⟩
theorem M0{neg:Bool}{x:Int}(M:Mg h A n x)(hc:n<=c)(hK:∀ s,NI h s A n c (if neg then -x else x)->K (.agg #[.bool s,.slice A n c]) h):FCall prog Q6 #[.bool neg,.slice A n c] h K:=by
 have h0:=M.nonneg (by decide)
 have hz:=M.len_zero (by decide)
 refine B0x _ _ _ _ ?_
 unfold B5d
 refine Br.of (fun e=>?_) (fun e=>?_)
 ·subst e
  refine hK _ ⟨?_,?_,hc⟩
  ·have:(((if true=true then -x else x).natAbs:Nat):Int)=x:=by simp;omega
   rw [this];exact M
  ·simp;omega
 ·subst e
  refine hK _ ⟨?_,?_,hc⟩
  ·have:(((if false=true then -x else x).natAbs:Nat):Int)=x:=by simp;omega
   rw [this];exact M
  ·simp;omega
theorem Ol(hz: -9223372036854775808<=z/\z<=9223372036854775807)(hK:∀ s A n c h',h.le h'->NI h' s A n c z->K (.agg #[.bool s,.slice A n c]) h'):FCall prog Ht #[I z] h K:=by
 refine A3n _ ?_
 unfold A58
 refine ⟨fun l h'=>l=[U z.natAbs]/\h'=h,B6 (fun h1=>⟨?_,rfl⟩) (fun h1=>⟨?_,rfl⟩),?_⟩
 ·have:C0 (0-C0 z)=z.natAbs:=by rw [E8,E8];omega
  rw [this]
 ·have:C0 z=z.natAbs:=by rw [E8];omega
  rw [this]
 ·rintro u hp ⟨hl,rfl⟩
  obtain rfl:u=(z.natAbs:Int):=by simpa using hl
  rw [V1,Ts,N5 (n:=(z.natAbs:Int)/4294967296) (by omega) (by omega)]
  refine B6h Mo rfl rfl ?_
  intro b hb
  refine ⟨_,_,_,rfl,?_⟩
  have hd:Dig b32 [(z.natAbs:Int)%4294967296,(z.natAbs:Int)/4294967296]:=by
   intro d hd
   simp only [List.mem_cons,List.not_mem_nil,or_false] at hd
   show _/\_<(4294967296:Int)
   rcases hd with rfl|rfl<;>omega
  refine V4 (xs:=[(z.natAbs:Int)%4294967296,(z.natAbs:Int)/4294967296]) (SlI.new hp b _ C4 _) hd (C3k _) (by simp) ?_
  intro m hm hM
  have hv:val b32 [(z.natAbs:Int)%4294967296,(z.natAbs:Int)/4294967296]=z.natAbs:=by
   simp only [val]
   show _+(4294967296:Int)*(_+4294967296*0)=_
   omega
  rw [hv] at hM
  refine ⟨_,_,_,rfl,?_⟩
  refine M0 hM (by simpa using hm) ?_
  intro s i
  refine ⟨_,_,_,_,rfl,hK _ _ _ _ _ (Heap.le_put _ hb) ?_⟩
  have:(if decide (z<0)=true then -(z.natAbs:Int) else (z.natAbs:Int))=z:=by
   by_cases h0:z<0
   ·rw [if_pos (by simpa using h0)];omega
   ·rw [if_neg (by simpa using h0)];omega
  rw [this] at i
  exact i
theorem A00(i:NI h s A n c z)(hK:K (I z.sign) h):FCall prog Xo #[.agg #[.bool s,.slice A n c]] h K:=by
 have hz:=i.zero_iff
 have hs:=i.sg
 refine B3m _ _ _ _ ?_
 unfold B9n
 refine Br.of (fun e=>?_) (fun e=>?_)
 ·have h0:z<0:=by rw [hs] at e;simpa using e
  rw [C37 h0] at hK;exact hK
 ·have h0:¬ z<0:=by rw [hs] at e;simpa using e
  refine D9 (fun e=>?_) (fun e=>?_)
  ·have:z=0:=by omega
   subst this;exact hK
  ·rw [C35 (by omega)] at hK;exact hK
theorem Wz(i:NI h s A n c z)(hK:∀ s,NI h s A n c (-z)->K (.agg #[.bool s,.slice A n c]) h):FCall prog A0o #[.agg #[.bool s,.slice A n c]] h K:=by
 refine B7j _ _ _ _ ?_
 unfold C2n
 refine M0 i.mag i.cap ?_
 intro s' i'
 refine ⟨_,_,_,_,rfl,hK _ ?_⟩
 have:(if (!s)=true then -(z.natAbs:Int) else (z.natAbs:Int))= -z:=by
  rw [i.sg]
  by_cases h0:z<0
  ·rw [if_neg (by simpa using h0)];omega
  ·rw [if_pos (by simpa using h0)];omega
 rw [this] at i';exact i'
theorem A4z(ia:NI h s A n c x)(ib:NI h s' B n' c' y)(hx:ZB m x)(hy:ZB m y)(hm:m<=1000000000)(hK:∀ s A n c h',h.le h'->NI h' s A n c (x+y)->K (.agg #[.bool s,.slice A n c]) h'):FCall prog A4q #[.agg #[.bool s,.slice A n c],.agg #[.bool s',.slice B n' c']] h K:=by
 have l1:=ia.len hx hm
 have l2:=ib.len hy hm
 refine B7m _ _ _ _ _ _ _ _ ?_
 unfold C2q
 have hs:=ia.sg
 have hs':=ib.sg
 refine Br.of (fun e=>?_) (fun e=>?_)
 ·have e1:s=s':=by simpa using e
  refine Sq ia.mag ib.mag l1 l2 ?_
  intro A' m' c1 h1 hle hc1 hM
  refine ⟨_,_,_,rfl,hle,?_⟩
  refine M0 hM hc1 ?_
  intro s1 i1
  refine ⟨_,_,_,_,rfl,B4 _,hK _ _ _ _ _ hle ?_⟩
  have:(if s=true then -((x.natAbs:Int)+y.natAbs) else (x.natAbs:Int)+y.natAbs)=x+y:=by
   rw [e1] at hs
   by_cases h0:x<0
   ·have:s=true:=by rw [e1,hs];simpa using h0
    rw [if_pos this]
    have:y<0:=by rw [hs'] at hs;simpa [h0] using hs
    omega
   ·have:¬ s=true:=by rw [e1,hs];simpa using h0
    rw [if_neg this]
    have:¬ y<0:=by rw [hs'] at hs;simpa [h0] using hs
    omega
  rw [this] at i1;exact i1
 ·have e1:s≠s':=by simpa using e
  refine Si ia.mag ib.mag (by omega) ⟨_,rfl,B6 (fun h1=>?_) (fun h1=>?_)⟩
  ·have hge:(y.natAbs:Int)<=x.natAbs:=by
    by_cases hc:(x.natAbs:Int)<y.natAbs
    ·rw [if_pos hc] at h1;omega
    ·omega
   refine Qr ia.mag ib.mag hge l1 ?_
   intro A' m' c1 h1 hle hc1 hM
   refine ⟨_,_,_,rfl,hle,?_⟩
   refine M0 hM hc1 ?_
   intro s1 i1
   refine ⟨_,_,_,_,rfl,B4 _,hK _ _ _ _ _ hle ?_⟩
   have:(if s=true then -((x.natAbs:Int)-y.natAbs) else (x.natAbs:Int)-y.natAbs)=x+y:=by
    by_cases h0:x<0
    ·have hst:s=true:=by rw [hs];simpa using h0
     rw [if_pos hst]
     have:¬ y<0:=by intro h2;apply e1;rw [hs,hs'];simp [h0,h2]
     omega
    ·have hst:¬ s=true:=by rw [hs];simpa using h0
     rw [if_neg hst]
     have:y<0:=by
      by_cases h2:y<0
      ·exact h2
      ·exact absurd (by rw [hs,hs'];simp [h0,h2]) e1
     omega
   rw [this] at i1;exact i1
  ·have hge:(x.natAbs:Int)<=y.natAbs:=by
    by_cases hc:(x.natAbs:Int)<y.natAbs
    ·omega
    ·rw [if_neg hc] at h1
     by_cases hc2:(x.natAbs:Int)>y.natAbs
     ·rw [if_pos hc2] at h1;omega
     ·rw [if_neg hc2] at h1;omega
   refine Qr ib.mag ia.mag hge l2 ?_
   intro A' m' c1 h1 hle hc1 hM
   refine ⟨_,_,_,rfl,hle,?_⟩
   refine M0 hM hc1 ?_
   intro s1 i1
   refine ⟨_,_,_,_,rfl,B4 _,hK _ _ _ _ _ hle ?_⟩
   have:(if s'=true then -((y.natAbs:Int)-x.natAbs) else (y.natAbs:Int)-x.natAbs)=x+y:=by
    by_cases h0:y<0
    ·have hst:s'=true:=by rw [hs'];simpa using h0
     rw [if_pos hst]
     have:¬ x<0:=by intro h2;apply e1;rw [hs,hs'];simp [h0,h2]
     omega
    ·have hst:¬ s'=true:=by rw [hs'];simpa using h0
     rw [if_neg hst]
     have:x<0:=by
      by_cases h2:x<0
      ·exact h2
      ·exact absurd (by rw [hs,hs'];simp [h0,h2]) e1
     omega
   rw [this] at i1;exact i1
theorem Zz(x y:Int)(p:Nat)(hs:s=decide (x<0))(hs':s'=decide (y<0)):(if (!(s==s'))=true then -(p:Int) else (p:Int))=x.sign*y.sign*p\/x=0\/y=0:=by
 by_cases h1:x=0
 ·right;left;exact h1
 by_cases h2:y=0
 ·right;right;exact h2
 left
 by_cases h3:x<0<;>by_cases h4:y<0
 ·rw [C37 h3,C37 h4,if_neg (by rw [hs,hs'];simp [h3,h4])];omega
 ·rw [C37 h3,C35 (by omega),if_pos (by rw [hs,hs'];simp [h3,h4])];omega
 ·rw [C35 (by omega),C37 h4,if_pos (by rw [hs,hs'];simp [h3,h4])];omega
 ·rw [C35 (by omega),C35 (by omega),if_neg (by rw [hs,hs'];simp [h3,h4])];omega
theorem A5j(x y:Int):x.tdiv y=x.sign*y.sign*((x.natAbs/y.natAbs:Nat):Int):=by
 have key:∀ a b:Nat,(a:Int).tdiv b=(a:Int).sign*(b:Int).sign*((a/b:Nat):Int):=by
  intro a b
  rw [<- Int.ofNat_tdiv]
  by_cases ha:a=0
  ·subst ha;simp
  by_cases hb:b=0
  ·subst hb;simp
  rw [C35 (by omega),C35 (by omega),Int.one_mul,Int.one_mul]
 obtain ⟨a,rfl|rfl⟩:=Int.eq_nat_or_neg x<;>obtain ⟨b,rfl|rfl⟩:=Int.eq_nat_or_neg y<;>simp only [Int.neg_tdiv,Int.tdiv_neg,Int.sign_neg,C3e,C36,key]<;>grind
theorem Ho{m':Nat}(ia:NI h s A n c x)(ib:NI h s' B n' c' y)(hx:ZB m x)(hy:ZB m' y)(hm:m<=1000000000)(hm':m'<=1000000000)(hK:∀ s A n c h',h.le h'->NI h' s A n c (x*y)->K (.agg #[.bool s,.slice A n c]) h'):FCall prog Ot #[.agg #[.bool s,.slice A n c],.agg #[.bool s',.slice B n' c']] h K:=by
 refine B7k _ _ _ _ _ _ _ _ ?_
 unfold C2o
 refine Rb ia.mag ib.mag (ia.len hx hm) (ib.len hy hm') ?_
 intro A' m1 c1 h1 hle hc1 hM
 refine ⟨_,_,_,rfl,hle,?_⟩
 refine M0 hM hc1 ?_
 intro s1 i1
 refine ⟨_,_,_,_,rfl,B4 _,hK _ _ _ _ _ hle ?_⟩
 have:(if (!(s==s'))=true then -((x.natAbs:Int)*y.natAbs) else (x.natAbs:Int)*y.natAbs)=x*y:=by
  rcases Zz x y (x.natAbs*y.natAbs) ia.sg ib.sg with e|e|e
  ·rw [C3h] at e
   rw [e]
   have e1:=Int.sign_mul_natAbs x
   have e2:=Int.sign_mul_natAbs y
   have:x.sign*y.sign*((x.natAbs:Int)*y.natAbs)=(x.sign*x.natAbs)*(y.sign*y.natAbs):=by grind
   rw [this,e1,e2]
  ·subst e;simp
  ·subst e;simp
 rw [this] at i1;exact i1
theorem Qu(ia:NI h s A n c x)(ib:NI h s' B n' c' y)(hy0:y≠0)(hx:ZB m x)(hy:ZB m y)(hm:m<=1000000000)(hK:∀ s A n c s' B n' c' h',h.le h'->NI h' s A n c (x.tdiv y)->NI h' s' B n' c' (x.tmod y)->K (.tuple #[.agg #[.bool s,.slice A n c],.agg #[.bool s',.slice B n' c']]) h'):FCall prog Kv #[.agg #[.bool s,.slice A n c],.agg #[.bool s',.slice B n' c']] h K:=by
 refine A6p _ _ _ _ _ _ _ _ ?_
 unfold B0u
 refine Sd ia.mag ib.mag (by omega) (ia.len hx hm) (ib.len hy hm) ?_
 intro A1 m1 c1 A2 m2 c2 h1 hle hc1 hc2 M1 M2
 refine ⟨_,_,_,_,_,_,rfl,?_⟩
 refine M0 M1 hc1 ?_
 intro s1 i1
 refine ⟨_,_,_,_,rfl,B4 _,?_⟩
 refine M0 M2 hc2 ?_
 intro s2 i2
 refine ⟨_,_,_,_,rfl,B4 _,hK _ _ _ _ _ _ _ _ _ hle ?_ ?_⟩
 ·have:(if (!(s==s'))=true then -((x.natAbs:Int)/y.natAbs) else (x.natAbs:Int)/y.natAbs)=x.tdiv y:=by
   rcases Zz x y (x.natAbs/y.natAbs) ia.sg ib.sg with e|e|e
   ·rw [C3t] at e
    rw [e,A5j,C3t]
   ·subst e;simp
   ·exact absurd e hy0
  rw [this] at i1;exact i1
 ·have:(if s=true then -((x.natAbs:Int)%y.natAbs) else (x.natAbs:Int)%y.natAbs)=x.tmod y:=by
   rw [ia.sg]
   by_cases h0:x<0
   ·rw [if_pos (by simpa using h0)]
    obtain ⟨k,rfl⟩:∃ k:Nat,x= -(k:Int):=⟨x.natAbs,by omega⟩
    rw [Int.neg_tmod,C3e,C36]
    congr 1
    rw [<- C40 (by omega)]
    by_cases h2:y<0
    ·obtain ⟨j,rfl⟩:∃ j:Nat,y= -(j:Int):=⟨y.natAbs,by omega⟩
     rw [Int.tmod_neg,C3e,C36]
    ·rw [C3d (by omega)]
   ·rw [if_neg (by simpa using h0)]
    rw [C3d (by omega),<- C40 (by omega)]
    by_cases h2:y<0
    ·obtain ⟨j,rfl⟩:∃ j:Nat,y= -(j:Int):=⟨y.natAbs,by omega⟩
     rw [Int.tmod_neg,C3e,C36]
    ·rw [C3d (by omega)]
  rw [this] at i2;exact i2
end
def N3(n:Nat):Nat:=if n=0 then 0 else Nat.log2 n+1
theorem A0x:N3 0=0:=rfl
theorem A9u{n:Nat}(h:n≠0):N3 n=N3 (n/2)+1:=by
 unfold N3
 rw [if_neg h]
 by_cases h1:n/2=0
 ·have:n=1:=by omega
  subst this;rfl
 ·rw [if_neg h1,Nat.log2_def n,if_pos (by omega)]
theorem Db{n:Nat}(h:n≠0):2^(N3 n-1)<=n/\n<2^N3 n:=by
 unfold N3
 rw [if_neg h,Nat.add_sub_cancel]
 exact ⟨Nat.log2_self_le h,Nat.lt_log2_self⟩
theorem A3c{n k:Nat}(h1:2^k<=n)(h2:n<2^(k+1)):N3 n=k+1:=by
 have h0:n≠0:=by have:=C3b (n:=k) (show 0<2 by decide);omega
 unfold N3
 rw [if_neg h0]
 have a:=(Nat.le_log2 h0).2 h1
 have b:=(Nat.log2_lt h0).2 h2
 omega
theorem Vk{l t j:Nat}(hl:l<2^j)(ht:t≠0):N3 (l+2^j*t)=j+N3 t:=by
 obtain ⟨a,b⟩:=Db ht
 have hb:N3 t=N3 t-1+1:=by unfold N3;rw [if_neg ht];omega
 have hp:0<2^j:=C3b (by decide)
 rw [hb,<- Nat.add_assoc]
 apply A3c
 ·rw [Nat.pow_add]
  have:=C3j (2^j) a
  omega
 ·rw [Nat.add_assoc,<- hb,Nat.pow_add]
  have:=C3j (2^j) (show t+1<=2^N3 t by omega)
  rw [Nat.mul_add] at this;omega
theorem Gr{n k:Nat}(h:n<2^k):N3 n<=k:=by
 by_cases h0:n=0
 ·subst h0;rw [A0x];omega
 ·unfold N3;rw [if_neg h0];have:=(Nat.log2_lt h0).2 h;omega
theorem A4x{n:Nat}:N3 n=1↔n=1:=by
 constructor
 ·intro h
  by_cases h0:n=0
  ·subst h0;cases h
  ·have:=Db h0
   rw [h] at this;simp at this;omega
 ·rintro rfl;rfl
theorem A3d{n:Nat}:1<N3 n↔1<n:=by
 by_cases h0:n=0
 ·subst h0;simp [N3]
 by_cases h1:n=1
 ·subst h1;decide
 ·have h2:N3 n≠0:=by unfold N3;rw [if_neg h0];omega
  have h3:N3 n≠1:=fun e=>h1 (A4x.1 e)
  omega
section
variable {h h':Heap} {K:VP} {A B:Option Addr} {n c n' c':Nat} {s s':Bool} {x y z:Int} {m:Nat}
theorem B2q(ia:NI h s A n c x)(ib:NI h s' B n' c' y)(hx:ZB m x)(hy:ZB m y)(hm:m<=1000000000)(hK:∀ s A n c h',h.le h'->NI h' s A n c (C3f x y)->K (.agg #[.bool s,.slice A n c]) h'):FCall prog A92 #[.agg #[.bool s,.slice A n c],.agg #[.bool s',.slice B n' c']] h K:=by
 refine B7l _ _ _ _ _ _ _ _ ?_
 unfold C2p
 refine ⟨fun l hp=>∃ (A B:Option Addr) (n c n' c' X Y:Nat),l=[.slice A n c,.slice B n' c']/\h.le hp/\Mg hp A n X/\Mg hp B n' Y/\n<=c/\n'<=c'/\Nat.gcd X Y=C3f x y/\n<=100000000/\n'<=100000000,fun l hp=>match l with|[_,.slice A n _]=>A8g b32 hp A n|_=>0,⟨_,_,_,_,_,_,_,_,rfl,B4 h,ia.mag,ib.mag,ia.cap,ib.cap,rfl,ia.len hx hm,ib.len hy hm⟩,?_⟩
 rintro A1 n1 c1 B1 n2 c2 hp ⟨A1',B1',n1',c1',n2',c2',X,Y,hl,hle,M1,M2,k1,k2,hg,q1,q2⟩
 obtain ⟨⟨rfl,rfl,rfl⟩,rfl,rfl,rfl⟩:(A1=A1'/\n1=n1'/\c1=c1')/\B1=B1'/\n2=n2'/\c2=c2':=by simpa using hl
 have hz:=M2.len_zero (by decide)
 refine B6 (fun h1=>?_) (fun h1=>?_)
 ·have hY:Y≠0:=by omega
  refine Sd M1 M2 (by omega) q1 q2 ?_
  intro A3 m3 c3 A4 m4 c4 h' hle' k3 k4 M3 M4
  have hmod:((X:Int)%(Y:Int))=((X%Y:Nat):Int):=by omega
  rw [hmod] at M4
  have hlt:=Nat.mod_lt X (Nat.pos_of_ne_zero hY)
  refine ⟨_,_,_,_,_,_,rfl,⟨_,_,_,_,_,_,Y,X%Y,rfl,B0 hle hle',M2.mono hle',M4,k2,k4,?_,q2,?_⟩,?_⟩
  ·rw [<- hg,Nat.gcd_comm X Y,Nat.gcd_rec Y X,Nat.gcd_comm]
  ·have:=M4.len_le (by decide) (j:=n2) (Int.lt_trans (show ((X%Y:Nat):Int)<(Y:Int) by omega) (M2.lt (by decide)))
   omega
  ·simp only [Y6 M4,Y6 M2];omega
 ·have hY:Y=0:=by omega
  subst hY
  rw [Nat.gcd_zero_right] at hg
  refine M0 M1 k1 ?_
  intro s1 i1
  refine ⟨_,_,_,_,rfl,hK _ _ _ _ _ hle ?_⟩
  rw [hg] at i1
  exact i1
theorem A0y(i:NI h s A n c z)(hz:ZB m z)(hm:m<=1000000000)(hK:K (I (N3 z.natAbs)) h):FCall prog Xt #[.agg #[.bool s,.slice A n c]] h K:=by
 have hl:=i.len hz hm
 have h0:=i.zero_iff
 refine B3w _ _ _ _ ?_
 unfold B9x
 refine D9 (fun e=>?_) (fun e=>?_)
 ·have:z=0:=h0.1 (by omega)
  subst this;exact hK
 ·obtain ⟨xs,hxl,sx,dx,nx,hv⟩:=i.mag
  obtain ⟨k,hk⟩:∃ k,xs.length=k+1:=⟨xs.length-1,by omega⟩
  have e1:B5 ((n:Int)-1)=(k:Int):=by rw [B7 (by omega) (by omega)];omega
  have e2:B5 (32*(k:Int))=((32*k:Nat):Int):=by rw [B7 (by omega) (by omega)];omega
  rw [e1,e2]
  refine sx.load hxl (by omega) (by omega) ?_
  rw [C3g]
  have gx:=Au dx k
  have ht:=Zs hk nx
  have hb:32*k+N3 (xs.getD k 0).toNat=N3 z.natAbs:=by
   have v1:=F9 b32 xs k
   rw [<- hk,C3r] at v1
   have v2:=K6 (by decide) (dx.take k)
   have v3:=C7 (by decide) (dx.take k)
   rw [List.length_take,C3w (by omega)] at v2
   have ep:b32^k=((2^(32*k):Nat):Int):=by
    rw [show b32=(2:Int)^32 by decide,<- Int.pow_mul];simp
   have e3:z.natAbs=(val b32 (xs.take k)).toNat+2^(32*k)*(xs.getD k 0).toNat:=by
    have:((z.natAbs:Nat):Int)=(((val b32 (xs.take k)).toNat+2^(32*k)*(xs.getD k 0).toNat:Nat):Int):=by
     rw [<- hv,v1,Int.natCast_add,C3h,<- ep,C3l v3,C3l gx.1]
    omega
   rw [e3,Vk (by omega) (by omega)]
  refine ⟨fun l hp=>∃ (t k:Nat),l=[I k,U32 t]/\hp=h/\k+N3 t=N3 z.natAbs/\t<4294967296,fun l _=>(iAt l 1).toNat,⟨(xs.getD k 0).toNat,32*k,?_,rfl,hb,by omega⟩,?_⟩
  ·rw [C3l gx.1]
  ·rintro k2 t2 hp ⟨t,k3,hli,rfl,hbl,htl⟩
   obtain ⟨rfl,rfl⟩:k2=(k3:Int)/\t2=(t:Int):=by simpa using hli
   have hbz:N3 z.natAbs<=m:=Gr hz
   refine B6 (fun h1=>?_) (fun h1=>?_)
   ·have e3:Int.fdiv (t:Int) (2^(min ((1:Int)).toNat 32))=((t/2:Nat):Int):=by
     rw [show (2:Int)^(min ((1:Int)).toNat 32)=2 by decide,Int.fdiv_eq_ediv_of_nonneg _ (by decide)];omega
    have hh:=A9u (n:=t) (by omega)
    have e4:B5 ((k3:Int)+1)=((k3+1:Nat):Int):=by rw [B7 (by omega) (by omega)];omega
    rw [e3,e4]
    exact ⟨⟨t/2,k3+1,rfl,rfl,by omega,by omega⟩,by simp only [iAt,List.getElem?_cons_zero,List.getElem?_cons_succ];omega⟩
   ·have:t=0:=by omega
    subst this
    rw [A0x,Nat.add_zero] at hbl
    rw [hbl];exact hK
end
structure QV where
 s:Bool
 A:Option Addr
 n:Nat
 c:Nat
 s2:Bool
 A2:Option Addr
 n2:Nat
 c2:Nat
abbrev QV.v(w:QV):Value:=.agg #[.bool w.s,.slice w.A w.n w.c,.bool w.s2,.slice w.A2 w.n2 w.c2]
structure NQ (h:Heap) (w:QV) (q:Rat):Prop where
 num:NI h w.s w.A w.n w.c q.num
 den:NI h w.s2 w.A2 w.n2 w.c2 (if q.den=1 then 0 else (q.den:Int))
structure Sz (m:Nat) (q:Rat):Prop where
 num:ZB m q.num
 den:ZB m q.den
theorem Sz.mono{m n:Nat}{q:Rat}(h:Sz m q)(hm:m<=n):Sz n q:=⟨h.num.mono hm,h.den.mono hm⟩
theorem Sz.neg{m:Nat}{q:Rat}(h:Sz m q):Sz m (-q):=⟨by rw [Rat.neg_num];exact h.num.neg,by rw [Rat.neg_den];exact h.den⟩
theorem A0r{a b:Int}(hb:b≠0):(C39 a b).num.natAbs<=a.natAbs/\(C39 a b).den<=b.natAbs:=by
 have hg:0<C3f b a:=Int.gcd_pos_of_ne_zero_left a hb
 rw [Rat.num_divInt,Rat.den_divInt,if_neg hb]
 constructor
 ·have hd:(C3f b a:Int)∣b.sign*a:=Int.dvd_mul_of_dvd_right (C3o b a)
  rw [Int.natAbs_ediv_of_dvd hd,C41,C36]
  have:b.sign.natAbs=1:=by
   rw [Int.natAbs_sign];simp [hb]
  rw [this,Nat.one_mul]
  exact Nat.div_le_self _ _
 ·exact Nat.div_le_self _ _
theorem Dg{m:Nat}{a b:Int}(hb:b≠0)(h1:ZB m a)(h2:ZB m b):Sz m (C39 a b):=by
 have:=A0r (a:=a) hb
 exact ⟨h1.le this.1,h2.le (by simpa using this.2)⟩
theorem Nt(p q:Rat):p+q=C39 (p.num*q.den+q.num*p.den) (p.den*q.den):=by
 rw [Rat.add_def',<- C3h,C3q]
theorem Nb(p q:Rat):p*q=C39 (p.num*q.num) (p.den*q.den):=by
 rw [Rat.mul_def',<- C3h,C3q]
theorem Hx(z:Int):C39 z 1=(z:Rat):=by
 show C39 z ((1:Nat):Int)=_
 rw [C3q]
 apply Rat.ext
 ·rw [Rat.num_mkRat];simp
 ·rw [Rat.den_mkRat];simp
theorem den_ne(q:Rat):(q.den:Int)≠0:=by have:=q.den_nz;omega
theorem Sz.add{m n:Nat}{p q:Rat}(hp:Sz m p)(hq:Sz n q):Sz (m+n+1) (p+q):=by
 rw [Nt]
 refine Dg (C3i (den_ne p) (den_ne q)) ?_ ((hp.den.mul hq.den).mono (by omega))
 exact (hp.num.mul hq.den).add ((hq.num.mul hp.den).mono (by omega))
theorem Sz.mul{m n:Nat}{p q:Rat}(hp:Sz m p)(hq:Sz n q):Sz (m+n) (p*q):=by
 rw [Nb]
 exact Dg (C3i (den_ne p) (den_ne q)) (hp.num.mul hq.num) (hp.den.mul hq.den)
theorem Sz.zero{m:Nat}(hm:1<=m):Sz m 0:=⟨ZB.zero,ZB.one hm⟩
theorem Sz.inv{m:Nat}{q:Rat}(h:Sz m q)(hm:1<=m):Sz m q⁻¹:=by
 constructor
 ·rw [Rat.num_inv]
  refine h.den.le ?_
  rw [C41]
  by_cases h0:q.num=0
  ·rw [h0];simp
  ·rw [Int.natAbs_sign];simp [h0]
 ·rw [Rat.den_inv]
  split
  ·exact ZB.one hm
  ·have:=h.num
   unfold ZB at *
   simpa using this
theorem Sz.div{m n:Nat}{p q:Rat}(hp:Sz m p)(hq:Sz n q)(hn:1<=n):Sz (m+n) (p/q):=by
 rw [Rat.div_def];exact hp.mul (hq.inv hn)
theorem Sz.int{m:Nat}{z:Int}(h:ZB m z)(hm:1<=m):Sz m (z:Rat):=⟨by simpa using h,by simpa using ZB.one hm⟩
section
variable {h h':Heap} {K:VP} {A B:Option Addr} {n c n' c':Nat} {s s':Bool} {x y z:Int} {m:Nat} {p q:Rat} {a b w:QV}
theorem NQ.mono(hl:h.le h')(i:NQ h w q):NQ h' w q:=⟨i.num.mono hl,i.den.mono hl⟩
theorem NQ.whole(i:NI h s A n c z){B:Option Addr}:NQ h ⟨s,A,n,c,false,B,0,0⟩ (z:Rat):=⟨by simpa using i,by simpa using NI.nil⟩
theorem NQ.den_zero(i:NQ h w q):w.n2=0↔q.den=1:=by
 rw [i.den.zero_iff]
 have:=q.den_nz
 split<;>omega
theorem NQ.zero:NQ h ⟨false,none,0,0,false,none,0,0⟩ 0:=⟨NI.nil,NI.nil⟩
theorem Cx(i:NQ h w q)(hK:∀ s A n c h',h.le h'->NI h' s A n c q.den->K (.agg #[.bool s,.slice A n c]) h'):FCall prog Gc #[w.v] h K:=by
 refine B3v _ _ _ _ _ _ _ _ ?_
 unfold B9w
 have h0:=i.den_zero
 refine D9 (fun e=>?_) (fun e=>?_)
 ·refine Ol (by decide) ?_
  intro s A n c h1 l1 i1
  refine ⟨_,_,_,_,rfl,hK _ _ _ _ _ l1 ?_⟩
  rw [h0.1 (by omega)];exact i1
 ·have hd:=i.den
  rw [if_neg (fun e1=>e (by have:=h0.2 e1;omega))] at hd
  exact hK _ _ _ _ _ (B4 h) hd
theorem Rl(ix:NI h s A n c x)(iy:NI h s' B n' c' y)(hy0:y≠0)(hx:ZB m x)(hy:ZB m y)(hm:m<=1000000000)(hK:∀ w h',h.le h'->NQ h' w (C39 x y)->K w.v h'):FCall prog Rw #[.agg #[.bool s,.slice A n c],.agg #[.bool s',.slice B n' c']] h K:=by
 refine B3u _ _ _ _ _ _ _ _ ?_
 unfold B9v
 refine ⟨fun l hp=>∃ s A n c s' B n' c' x' y',l=[.bool s,.slice A n c,.bool s',.slice B n' c']/\h.le hp/\NI hp s A n c x'/\NI hp s' B n' c' y'/\0<y'/\C39 x' y'=C39 x y/\ZB m x'/\ZB m y',Br.of (fun e=>?_) (fun e=>?_),?_⟩
 ·have hneg:y<0:=by have:=iy.sg;rw [e] at this;simpa using this.symm
  refine Wz ix ?_
  intro s1 i1
  refine ⟨_,_,_,_,rfl,B4 h,?_⟩
  refine Wz iy ?_
  intro s2 i2
  exact ⟨_,_,_,_,rfl,B4 h,_,_,_,_,_,_,_,_,-x,-y,rfl,B4 h,i1,i2,by omega,Rat.neg_divInt_neg x y,hx.neg,hy.neg⟩
 ·have hpos:0<y:=by have:=iy.sg;rw [e] at this;have:¬ y<0:=by simpa using this.symm
                    omega
  exact ⟨_,_,_,_,_,_,_,_,x,y,rfl,B4 h,ix,iy,hpos,rfl,hx,hy⟩
 rintro s1 A1 n1 c1 s2 A2 n2 c2 hp2 ⟨s1',A1',n1',c1',s2',A2',n2',c2',x',y',hl,hle,i1,i2,hpos,hq,hx',hy'⟩
 obtain ⟨rfl,⟨rfl,rfl,rfl⟩,rfl,rfl,rfl,rfl⟩:s1=s1'/\(A1=A1'/\n1=n1'/\c1=c1')/\s2=s2'/\A2=A2'/\n2=n2'/\c2=c2':=by simpa using hl
 refine B2q i1 i2 hx' hy' hm ?_
 intro s3 A3 n3 c3 h3 l3 i3
 refine ⟨_,_,_,_,rfl,?_⟩
 rw [<- hq] at hK
 generalize hqq:C39 x' y'=q at *
 have hnum:q.num=x'/(C3f x' y':Int):=by
  rw [<- hqq,Rat.num_divInt,C35 hpos,Int.one_mul,Int.gcd_comm]
 have hden:(q.den:Int)=y'/(C3f x' y':Int):=by
  rw [<- hqq,Rat.den_divInt,if_neg (by omega),Int.gcd_comm,C3t,C3d (by omega)]
 have hg1:0<C3f x' y':=Int.gcd_pos_of_ne_zero_right x' (by omega)
 have hgm:ZB m (C3f x' y':Int):=by
  refine hy'.le ?_
  rw [C36]
  exact Nat.le_of_dvd (by omega) (by have:=C3o x' y';exact Int.ofNat_dvd_left.1 this)
 refine ⟨fun l hp=>∃ s A n c s' B n' c',l=[.bool s,.slice A n c,.bool s',.slice B n' c']/\h.le hp/\NI hp s A n c q.num/\NI hp s' B n' c' q.den,?_,?_⟩
 ·refine A0y i3 hgm hm ⟨_,rfl,?_⟩
  rw [C36]
  refine B6 (fun e=>?_) (fun e=>?_)
  ·refine Qu (i1.mono l3) i3 (by omega) hx' hgm hm ?_
   intro s4 A4 n4 c4 s5 A5 n5 c5 h4 l4 i4 _
   refine ⟨_,_,_,_,_,_,_,_,rfl,?_⟩
   refine Qu ((i2.mono l3).mono l4) (i3.mono l4) (by omega) hy' hgm hm ?_
   intro s6 A6 n6 c6 s7 A7 n7 c7 h5 l5 i6 _
   have e1:x'.tdiv (C3f x' y':Int)=q.num:=by rw [hnum,Int.tdiv_eq_ediv_of_dvd (Int.gcd_dvd_left x' y')]
   have e2:y'.tdiv (C3f x' y':Int)=q.den:=by rw [hden,Int.tdiv_eq_ediv_of_dvd (C3o x' y')]
   rw [e1] at i4
   rw [e2] at i6
   exact ⟨_,_,_,_,_,_,_,_,rfl,_,_,_,_,_,_,_,_,rfl,B0 hle (B0 l3 (B0 l4 l5)),i4.mono l5,i6⟩
  ·have hg:C3f x' y'=1:=by
    have:¬ 1<N3 (C3f x' y'):=by omega
    rw [A3d] at this;omega
   rw [hg] at hnum hden
   simp at hnum hden
   exact ⟨_,_,_,_,_,_,_,_,rfl,B0 hle l3,by rw [hnum];exact i1.mono l3,by rw [hden];exact i2.mono l3⟩
 rintro s4 A4 n4 c4 s5 A5 n5 c5 hp7 ⟨s4',A4',n4',c4',s5',A5',n5',c5',hl2,hle2,i4,i5⟩
 obtain ⟨rfl,⟨rfl,rfl,rfl⟩,rfl,rfl,rfl,rfl⟩:s4=s4'/\(A4=A4'/\n4=n4'/\c4=c4')/\s5=s5'/\A5=A5'/\n5=n5'/\c5=c5':=by simpa using hl2
 have hqd:ZB m (q.den:Int):=by
  refine hy'.le ?_
  have:=(A0r (a:=x') (b:=y') (by omega)).2
  rw [hqq] at this
  simpa using this
 refine ⟨fun l hp=>∃ s' B n' c',l=[.bool s',.slice B n' c']/\hp=hp7/\NI hp s' B n' c' (if q.den=1 then 0 else (q.den:Int)),?_,?_⟩
 ·refine A0y i5 hqd hm ⟨_,rfl,?_⟩
  rw [C36]
  refine D9 (fun e=>?_) (fun e=>?_)
  ·have:q.den=1:=A4x.1 (by omega)
   exact ⟨_,_,_,_,rfl,rfl,by rw [if_pos this];exact NI.nil⟩
  ·have:¬ q.den=1:=fun e1=>e (by rw [e1];rfl)
   exact ⟨_,_,_,_,rfl,rfl,by rw [if_neg this];exact i5⟩
 rintro s6 A6 n6 c6 hp9 ⟨s6',A6',n6',c6',hl3,rfl,i6⟩
 obtain ⟨rfl,rfl,rfl,rfl⟩:s6=s6'/\A6=A6'/\n6=n6'/\c6=c6':=by simpa using hl3
 exact hK ⟨s4,A4,n4,c4,s6,A6,n6,c6⟩ _ hle2 ⟨i4,i6⟩
theorem B8j(hz: -9223372036854775808<=z/\z<=9223372036854775807)(hK:∀ w h',h.le h'->NQ h' w (z:Rat)->K w.v h'):FCall prog C16 #[I z] h K:=by
 refine C1n _ ?_
 unfold NR
 refine Ol hz ?_
 intro s A n c h1 l1 i1
 exact ⟨_,_,_,_,rfl,hK ⟨s,A,n,c,false,none,0,0⟩ _ l1 (NQ.whole i1)⟩
theorem Hm(i:NQ h w q)(hK:K (I q.num.sign) h):FCall prog Ee #[w.v] h K:=by
 refine B0t _ _ _ _ _ _ _ _ ?_
 unfold B5c
 exact A00 i.num ⟨_,rfl,hK⟩
theorem A7x(i:NQ h w q)(hK:∀ w,NQ h w (-q)->K w.v h):FCall prog A31 #[w.v] h K:=by
 refine B3p _ _ _ _ _ _ _ _ ?_
 unfold B9q
 refine Wz i.num ?_
 intro s1 i1
 exact ⟨_,_,_,_,rfl,B4 h,hK ⟨s1,w.A,w.n,w.c,w.s2,w.A2,w.n2,w.c2⟩ ⟨i1,i.den⟩⟩
theorem A06(ia:NQ h a p)(ib:NQ h b q)(hp:Sz m p)(hq:Sz m q)(hm:m<=400000000)(hK:∀ w h',h.le h'->NQ h' w (p+q)->K w.v h'):FCall prog Xr #[a.v,b.v] h K:=by
 have ha0:=ia.den_zero
 have hb0:=ib.den_zero
 refine B3s _ _ _ _ _ _ _ _ _ _ _ _ _ _ _ _ ?_
 unfold B9t
 refine ⟨fun l h'=>l=[.bool (decide (p.den=1/\q.den=1))]/\h'=h,D9 (fun e=>?_) (fun e=>?_),?_⟩
 ·have h1:p.den=1:=ha0.1 (by omega)
  refine ⟨?_,rfl⟩
  have:((b.n2:Int)==0)=decide (p.den=1/\q.den=1):=by
   rw [Bool.eq_iff_iff];simp [h1];omega
  rw [this]
 ·have h1:¬ p.den=1:=fun e1=>e (by have:=ha0.2 e1;omega)
  exact ⟨by simp [h1],rfl⟩
 rintro t hp1 ⟨hl,rfl⟩
 obtain rfl:t=decide (p.den=1/\q.den=1):=by simpa using hl
 have zpn:=hp.num;have zpd:=hp.den;have zqn:=hq.num;have zqd:=hq.den
 refine B6 (fun e=>?_) (fun e=>?_)
 ·refine A4z ia.num ib.num zpn zqn (by omega) ?_
  intro s1 A1 n1 c1 h1 l1 i1
  refine ⟨_,_,_,_,rfl,hK ⟨s1,A1,n1,c1,false,none,0,0⟩ _ l1 ?_⟩
  have:p+q=((p.num+q.num:Int):Rat):=by
   rw [Nt,e.1,e.2]
   show C39 (p.num*1+q.num*1) (1*1)=_
   rw [C3m,C3m,C3m,Hx]
  rw [this];exact NQ.whole i1
 ·refine Cx ib ?_
  intro s1 A1 n1 c1 h1 l1 i1
  refine ⟨_,_,_,_,rfl,l1,?_⟩
  refine Ho (ia.num.mono l1) i1 zpn zqd (by omega) (by omega) ?_
  intro s2 A2 n2 c2 h2 l2 i2
  refine ⟨_,_,_,_,rfl,l2,?_⟩
  refine Cx (ia.mono (B0 l1 l2)) ?_
  intro s3 A3 n3 c3 h3 l3 i3
  refine ⟨_,_,_,_,rfl,l3,?_⟩
  have l13:=B0 l1 (B0 l2 l3)
  refine Ho (ib.num.mono l13) i3 zqn zpd (by omega) (by omega) ?_
  intro s4 A4 n4 c4 h4 l4 i4
  refine ⟨_,_,_,_,rfl,l4,?_⟩
  refine A4z (i2.mono (B0 l3 l4)) i4 (zpn.mul zqd) (zqn.mul zpd) (by omega) ?_
  intro s5 A5 n5 c5 h5 l5 i5
  refine ⟨_,_,_,_,rfl,l5,?_⟩
  have l15:=B0 l13 (B0 l4 l5)
  refine Cx (ia.mono l15) ?_
  intro s6 A6 n6 c6 h6 l6 i6
  refine ⟨_,_,_,_,rfl,l6,?_⟩
  refine Cx (ib.mono (B0 l15 l6)) ?_
  intro s7 A7 n7 c7 h7 l7 i7
  refine ⟨_,_,_,_,rfl,l7,?_⟩
  refine Ho (i6.mono l7) i7 zpd zqd (by omega) (by omega) ?_
  intro s8 A8 n8 c8 h8 l8 i8
  refine ⟨_,_,_,_,rfl,l8,?_⟩
  refine Rl (m:=m+m+1) (i5.mono (B0 l6 (B0 l7 l8))) i8 (C3i (den_ne p) (den_ne q)) ((zpn.mul zqd).add (zqn.mul zpd)) ((zpd.mul zqd).mono (by omega)) (by omega) ?_
  intro w h9 l9 i9
  rw [<- Nt] at i9
  exact ⟨_,_,_,_,_,_,_,_,rfl,l9,hK w _ (B0 l15 (B0 l6 (B0 l7 (B0 l8 l9)))) i9⟩
theorem A7w(ia:NQ h a p)(ib:NQ h b q)(hp:Sz m p)(hq:Sz m q)(hm:m<=400000000)(hK:∀ w h',h.le h'->NQ h' w (p-q)->K w.v h'):FCall prog A30 #[a.v,b.v] h K:=by
 refine B3o _ _ _ _ _ _ _ _ _ _ _ _ _ _ _ _ ?_
 unfold B9p
 refine A7x ib ?_
 intro w i
 refine ⟨_,_,_,_,_,_,_,_,rfl,B4 h,?_⟩
 refine A06 ia i hp hq.neg hm ?_
 intro w2 h2 l2 i2
 rw [<- Rat.sub_eq_add_neg] at i2
 exact ⟨_,_,_,_,_,_,_,_,rfl,l2,hK w2 _ l2 i2⟩
theorem A03(ia:NQ h a p)(ib:NQ h b q)(hp:Sz m p)(hq:Sz m q)(hm:m<=400000000)(hK:∀ w h',h.le h'->NQ h' w (p*q)->K w.v h'):FCall prog Xq #[a.v,b.v] h K:=by
 have ha0:=ia.den_zero
 have hb0:=ib.den_zero
 refine B3q _ _ _ _ _ _ _ _ _ _ _ _ _ _ _ _ ?_
 unfold B9r
 refine ⟨fun l h'=>l=[.bool (decide (p.den=1/\q.den=1))]/\h'=h,D9 (fun e=>?_) (fun e=>?_),?_⟩
 ·have h1:p.den=1:=ha0.1 (by omega)
  refine ⟨?_,rfl⟩
  have:((b.n2:Int)==0)=decide (p.den=1/\q.den=1):=by
   rw [Bool.eq_iff_iff];simp [h1];omega
  rw [this]
 ·have h1:¬ p.den=1:=fun e1=>e (by have:=ha0.2 e1;omega)
  exact ⟨by simp [h1],rfl⟩
 rintro t hp1 ⟨hl,rfl⟩
 obtain rfl:t=decide (p.den=1/\q.den=1):=by simpa using hl
 have zpn:=hp.num;have zpd:=hp.den;have zqn:=hq.num;have zqd:=hq.den
 refine B6 (fun e=>?_) (fun e=>?_)
 ·refine Ho ia.num ib.num zpn zqn (by omega) (by omega) ?_
  intro s1 A1 n1 c1 h1 l1 i1
  refine ⟨_,_,_,_,rfl,hK ⟨s1,A1,n1,c1,false,none,0,0⟩ _ l1 ?_⟩
  have:p*q=((p.num*q.num:Int):Rat):=by
   rw [Nb,e.1,e.2]
   show C39 (p.num*q.num) (1*1)=_
   rw [C3m,Hx]
  rw [this];exact NQ.whole i1
 ·refine Ho ia.num ib.num zpn zqn (by omega) (by omega) ?_
  intro s1 A1 n1 c1 h1 l1 i1
  refine ⟨_,_,_,_,rfl,l1,?_⟩
  refine Cx (ia.mono l1) ?_
  intro s2 A2 n2 c2 h2 l2 i2
  refine ⟨_,_,_,_,rfl,l2,?_⟩
  refine Cx (ib.mono (B0 l1 l2)) ?_
  intro s3 A3 n3 c3 h3 l3 i3
  refine ⟨_,_,_,_,rfl,l3,?_⟩
  refine Ho (i2.mono l3) i3 zpd zqd (by omega) (by omega) ?_
  intro s4 A4 n4 c4 h4 l4 i4
  refine ⟨_,_,_,_,rfl,l4,?_⟩
  refine Rl (m:=m+m) (i1.mono (B0 l2 (B0 l3 l4))) i4 (C3i (den_ne p) (den_ne q)) (zpn.mul zqn) (zpd.mul zqd) (by omega) ?_
  intro w h9 l9 i9
  rw [<- Nb] at i9
  exact ⟨_,_,_,_,_,_,_,_,rfl,l9,hK w _ (B0 l1 (B0 l2 (B0 l3 (B0 l4 l9)))) i9⟩
theorem A7z(ia:NQ h a p)(ib:NQ h b q)(hp:Sz m p)(hq:Sz m q)(hm:m<=400000000)(hK:K (I (p-q).num.sign) h):FCall prog A32 #[a.v,b.v] h K:=by
 refine FCall.pure (B3r _ _ _ _ _ _ _ _ _ _ _ _ _ _ _ _ ?_)
 unfold B9s
 refine A7w ia ib hp hq hm ?_
 intro w h1 l1 i1
 refine ⟨_,_,_,_,_,_,_,_,rfl,?_⟩
 exact Hm i1 ⟨_,rfl,l1,hK⟩
end
def dch(d:Nat):UInt8:=UInt8.ofNat (48+d)
theorem Cy{d:Nat}(h:d<10):(dch d).toNat=48+d:=by
 unfold dch;rw [UInt8.toNat_ofNat'];omega
def G1(c:UInt8):Prop:=48<=c.toNat/\c.toNat<=57
instance (c:UInt8):Decidable (G1 c):=by unfold G1;infer_instance
theorem B72{d:Nat}(h:d<10):G1 (dch d):=by unfold G1;rw [Cy h];omega
theorem B4u{c:UInt8}(h:G1 c):dch (c.toNat-48)=c:=by
 unfold G1 at h
 apply UInt8.toNat_inj.1
 rw [Cy (by omega)];omega
def dd(n:Nat):List UInt8:=if _h:n=0 then [] else dd (n/10)++[dch (n%10)]
theorem J2:dd 0=[]:=by unfold dd;simp
theorem Ae{n:Nat}(h:n≠0):dd n=dd (n/10)++[dch (n%10)]:=by rw [dd];simp [h]
def J0(l:List UInt8):Nat:=l.foldl (fun a c=>10*a+(c.toNat-48)) 0
theorem Gk(l:List UInt8)(c:UInt8):J0 (l++[c])=10*J0 l+(c.toNat-48):=by simp [J0]
theorem B6v(l:List UInt8):∀ a,l.foldl (fun a c=>10*a+(c.toNat-48)) a=a*10^l.length+J0 l:=by
 induction l with
 | nil=>intro a;simp [J0]
 | cons c l ih=>
  intro a
  unfold J0
  rw [List.foldl_cons,List.foldl_cons,ih,ih,List.length_cons,C3c]
  grind
theorem Em(a b:List UInt8):J0 (a++b)=J0 a*10^b.length+J0 b:=by
 unfold J0;rw [List.foldl_append,B6v b];rfl
theorem A9d(c:UInt8)(l:List UInt8):J0 (c::l)=(c.toNat-48)*10^l.length+J0 l:=by
 rw [<- List.singleton_append,Em];simp [J0]
theorem Ek{l:List UInt8}(h:∀ c∈l,G1 c):J0 l<10^l.length:=by
 induction l with
 | nil=>simp [J0]
 | cons c l ih=>
  have h1:=ih fun x hx=>h x (by simp [hx])
  have h2:=h c (by simp)
  unfold G1 at h2
  rw [A9d,List.length_cons,C3c]
  have:(c.toNat-48)*10^l.length<=9*10^l.length:=Nat.mul_le_mul_right _ (by omega)
  omega
theorem B6w(n:Nat):J0 (dd n)=n:=by
 induction n using C3v with
 | _ n ih=>
  by_cases h:n=0
  ·subst h;rw [J2];rfl
  ·rw [Ae h,Gk,ih _ (by omega),Cy (by omega)];omega
theorem B96(n:Nat):∀ c∈dd n,G1 c:=by
 induction n using C3v with
 | _ n ih=>
  by_cases h:n=0
  ·subst h;rw [J2];simp
  ·rw [Ae h]
   intro c hc
   rcases List.mem_append.1 hc with h1|h1
   ·exact ih _ (by omega) c h1
   ·rw [List.mem_singleton.1 h1];exact B72 (by omega)
theorem B30{n:Nat}(h:n≠0):dd n≠[]:=by rw [Ae h];simp
theorem A9m(n:Nat)(h:n≠0):(dd n).head? ≠ some 48:=by
 induction n using C3v with
 | _ n ih=>
  rw [Ae h]
  by_cases h1:n/10=0
  ·rw [h1,J2]
   simp only [C3x,List.head?_cons,ne_eq,Option.some.injEq]
   intro e
   have:=Cy (d:=n%10) (by omega)
   rw [e] at this
   simp at this
   omega
  ·have:=ih _ (by omega) h1
   obtain ⟨c,r,e⟩:=C3z (B30 h1)
   rw [e] at this ⊢
   simpa using this
theorem A9n{l:List UInt8}(h:∀ c∈l,G1 c)(h0:l.head? ≠ some 48):dd (J0 l)=l:=by
 obtain ⟨n,hn⟩:∃ n,l.length=n:=⟨_,rfl⟩
 induction n generalizing l with
 | zero=>rw [C3s hn];exact J2
 | succ n ih=>
  obtain ⟨m,c,rfl⟩:∃ m c,l=m++[c]:=by
   refine ⟨l.dropLast,l.getLast (by rintro rfl;simp at hn),?_⟩
   rw [List.dropLast_concat_getLast]
  have hc:=h c (by simp)
  have hc':=hc
  unfold G1 at hc'
  rw [Gk]
  cases m with
  | nil=>
   simp at h0
   have hne:c.toNat-48≠0:=by
    intro e
    apply h0
    apply UInt8.toNat_inj.1
    show c.toNat=48
    omega
   rw [Ae (by simp [J0];omega)]
   simp only [J0,List.foldl_nil,C3x]
   rw [show (10*0+(c.toNat-48))/10=0 by omega,J2,show (10*0+(c.toNat-48))%10=c.toNat-48 by omega,B4u hc];rfl
  | cons d m=>
   have ih':=ih (l:=d::m) (fun x hx=>h x (by simp at hx ⊢;rcases hx with h|h<;>simp [h])) (by simpa using h0) (by simpa using hn)
   have hpos:J0 (d::m)≠0:=by
    intro e
    rw [e,J2] at ih'
    cases ih'
   rw [Ae (by omega),show (10*J0 (d::m)+(c.toNat-48))/10=J0 (d::m) by omega,ih',show (10*J0 (d::m)+(c.toNat-48))%10=c.toNat-48 by omega,B4u hc]
theorem P7{n k:Nat}:(dd n).length<=k↔n<10^k:=by
 induction k generalizing n with
 | zero=>
  constructor
  ·intro h
   have:dd n=[]:=C3s (by omega)
   by_cases h0:n=0
   ·subst h0;decide
   ·exact absurd this (B30 h0)
  ·intro h
   have:n=0:=by simp at h;exact h
   subst this;rw [J2];simp
 | succ k ih=>
  by_cases h0:n=0
  ·subst h0;rw [J2];simp [C3b]
  ·rw [Ae h0,C3n,List.length_singleton,Nat.add_le_add_iff_right,ih,C3c]
   omega
def pad(w n:Nat):List UInt8:=List.replicate (w-(dd n).length) 48++dd n
theorem A4c(n:Nat):pad 0 n=dd n:=by simp [pad]
theorem Vb{w n:Nat}(h:n<10^w):(pad w n).length=w:=by
 have:=P7.2 h
 simp [pad];omega
theorem Px(w n:Nat):pad (w+1) n=pad w (n/10)++[dch (n%10)]:=by
 unfold pad
 by_cases h:n=0
 ·subst h
  rw [J2]
  simp only [List.length_nil,Nat.sub_zero,List.append_nil,Nat.zero_mod]
  rw [List.replicate_succ'];rfl
 ·rw [Ae h,C3n,List.length_singleton,Nat.add_sub_add_right,C3a]
theorem B95{h l k:Nat}(h0:h≠0)(hl:l<10^k):dd (h*10^k+l)=dd h++pad k l:=by
 induction k generalizing l with
 | zero=>
  have:l=0:=by simpa using hl
  subst this;simp [pad,J2]
 | succ k ih=>
  have hp:0<10^k:=C3b (by decide)
  have hne:h*10^(k+1)+l≠0:=by
   have:0<h*10^(k+1):=Nat.mul_pos (by omega) (C3b (by decide))
   omega
  have e1:(h*10^(k+1)+l)/10=h*10^k+l/10:=by
   rw [C3c,<- Nat.mul_assoc];omega
  have e2:(h*10^(k+1)+l)%10=l%10:=by
   rw [C3c,<- Nat.mul_assoc];omega
  rw [Ae hne,e1,e2,ih (by rw [C3c] at hl;omega),Px,C3a]
theorem A09{w h l k:Nat}(hl:l<10^k)(hw:h≠0\/k<=w):pad w (h*10^k+l)=pad (w-k) h++pad k l:=by
 by_cases h0:h=0
 ·subst h0
  have hk:k<=w:=by
   rcases hw with h|h
   ·exact absurd rfl h
   ·exact h
  have:=P7.2 hl
  unfold pad
  rw [J2]
  simp only [Nat.zero_mul,Nat.zero_add,List.length_nil,Nat.sub_zero,List.append_nil,<- C3a,List.replicate_append_replicate]
  congr 2;omega
 ·have e:=B95 h0 hl
  have hlen:=Vb hl
  unfold pad at hlen
  unfold pad at e ⊢
  rw [e,C3n,hlen,<- C3a]
  congr 3;omega
def L9(n:Nat):List UInt8:=if n=0 then [48] else dd n
theorem W6{n:Nat}(h:n≠0):L9 n=dd n:=by simp [L9,h]
theorem Y3(n:Nat):J0 (L9 n)=n:=by
 unfold L9;split
 ·rename_i h;subst h;rfl
 ·exact B6w n
theorem Ll(n:Nat):∀ c∈L9 n,G1 c:=by
 unfold L9;split
 ·intro c hc;rw [List.mem_singleton.1 hc];decide
 ·exact B96 n
theorem Se(n:Nat):L9 n≠[]:=by
 unfold L9;split
 ·simp
 ·rename_i h;exact B30 h
theorem B2z{a b:Nat}(h:L9 a=L9 b):a=b:=by rw [<- Y3 a,h,Y3]
theorem Lk{l:List UInt8}(h:∀ c∈l,G1 c)(hn:l≠[])(h0:l.head? ≠ some 48\/l=[48]):L9 (J0 l)=l:=by
 rcases h0 with h0|h0
 ·have:=A9n h h0
  rw [W6,this]
  intro e
  rw [e,J2] at this
  exact hn this.symm
 ·subst h0;rfl
theorem Qi{n k:Nat}(hk:0<k):(L9 n).length<=k↔n<10^k:=by
 by_cases h:n=0
 ·subst h;have:0<10^k:=C3b (by decide);simp [L9];omega
 ·rw [W6 h];exact P7
def Io(z:Int):List UInt8:=if z<0 then 45::L9 z.natAbs else L9 z.natAbs
def K3(q:Rat):List UInt8:=Io q.num++(if q.den=1 then [] else 47::L9 q.den)
structure Form (s:List UInt8) (neg:Bool) (a b:List UInt8):Prop where
 eq:s=(if neg then [45] else [])++a++(if b=[] then [] else 47::b)
 da:∀ c∈a,G1 c
 db:∀ c∈b,G1 c
 ne:a≠[]
 ha:a.head? ≠ some 48\/(a=[48]/\neg=false/\b=[])
 hb:b.head? ≠ some 48
 b1:b≠[49]
theorem A4l{c:UInt8}(h:G1 c):c≠45/\c≠47:=by
 unfold G1 at h
 constructor<;>(rintro rfl;revert h;decide)
theorem Dq{a r:List UInt8}(h:∀ c∈a,G1 c)(hr:∀ c,r.head? = some c->¬ G1 c):(a++r).takeWhile (fun c=>decide (G1 c))=a/\(a++r).dropWhile (fun c=>decide (G1 c))=r:=by
 induction a with
 | nil=>
  cases r with
  | nil=>simp
  | cons c r=>
   have:=hr c rfl
   simp [this]
 | cons c a ih=>
  have hc:=h c (by simp)
  have:=ih fun x hx=>h x (by simp [hx])
  simp [hc,this]
theorem Form.head{s:List UInt8}{neg:Bool}{a b:List UInt8}(f:Form s neg a b):neg=(s.head? == some 45):=by
 obtain ⟨c,r,e⟩:=C3z f.ne
 have hc:=(A4l (f.da c (by simp [e]))).1
 rw [f.eq,e]
 cases neg<;>simp [hc]
theorem Form.unique{s:List UInt8}{neg neg':Bool}{a b a' b':List UInt8}(f:Form s neg a b)(g:Form s neg' a' b'):neg=neg'/\a=a'/\b=b':=by
 have hn:neg=neg':=by rw [f.head,g.head]
 subst hn
 have e:=f.eq.symm.trans g.eq
 rw [C3a,C3a] at e
 have e2:=List.append_cancel_left e
 have hr:∀ b:List UInt8,∀ c,(if b=[] then [] else 47::b:List UInt8).head? = some c->¬ G1 c:=by
  intro b c hc
  split at hc
  ·simp at hc
  ·simp at hc;subst hc;decide
 have h1:=Dq f.da (hr b)
 have h2:=Dq g.da (hr b')
 rw [e2] at h1
 have ea:a=a':=h1.1.symm.trans h2.1
 have eb:=h1.2.symm.trans h2.2
 refine ⟨rfl,ea,?_⟩
 by_cases hb:b=[]<;>by_cases hb':b'=[]<;>simp [hb,hb'] at eb ⊢
 exact eb
theorem Sg{q:Rat}(h:q.num=0):q.den=1:=by
 have:=q.reduced
 rw [h] at this
 simpa using this
theorem Fl(q:Rat):Form (K3 q) (decide (q.num<0)) (L9 q.num.natAbs) (if q.den=1 then [] else L9 q.den):=by
 constructor
 ·unfold K3 Io
  by_cases h1:q.num<0<;>by_cases h2:q.den=1<;>simp [h1,h2,Se]
 ·exact Ll _
 ·split
  ·simp
  ·exact Ll _
 ·exact Se _
 ·by_cases h:q.num=0
  ·right
   rw [Sg h,h];simp [L9]
  ·left
   rw [W6 (by omega)];exact A9m _ (by omega)
 ·split
  ·simp
  ·rw [W6 q.den_nz];exact A9m _ q.den_nz
 ·split
  ·simp
  ·rename_i h
   intro e
   have e1:L9 q.den=L9 1:=by rw [e];simp [L9,Ae,J2,dch]
   exact h (B2z e1)
def Ov(neg:Bool)(a:List UInt8):Int:=if neg then -(J0 a:Int) else J0 a
def Jm(b:List UInt8):Nat:=if b=[] then 1 else J0 b
theorem Sb{b:List UInt8}(h:∀ c∈b,G1 c)(hn:b≠[])(h0:b.head? ≠ some 48):J0 b≠0:=by
 intro e
 have:=A9n h h0
 rw [e,J2] at this
 exact hn this.symm
theorem Form.den_ne{s:List UInt8}{neg:Bool}{a b:List UInt8}(f:Form s neg a b):Jm b≠0:=by
 unfold Jm;split
 ·decide
 ·rename_i h;exact Sb f.db h f.hb
theorem Form.txt{s:List UInt8}{neg:Bool}{a b:List UInt8}(f:Form s neg a b){q:Rat}(h1:q.num=Ov neg a)(h2:q.den=Jm b):s=K3 q:=by
 have ea:L9 (J0 a)=a:=Lk f.da f.ne (f.ha.imp id fun h=>h.1)
 have habs:(Ov neg a).natAbs=J0 a:=by unfold Ov;split<;>simp
 have hneg:(Ov neg a<0)↔neg=true:=by
  unfold Ov
  cases neg
  ·simp
  ·simp only [if_true]
   constructor
   ·intro _;trivial
   ·intro _
    have:J0 a≠0:=by
     rcases f.ha with h|h
     ·exact Sb f.da f.ne h
     ·exact absurd h.2.1 (by simp)
    omega
 have hd:(Jm b=1)↔b=[]:=by
  unfold Jm
  split
  ·rename_i h;simp [h]
  ·rename_i h
   constructor
   ·intro e
    exfalso
    have h3:=Lk f.db h (Or.inl f.hb)
    rw [e] at h3
    apply f.b1
    rw [<- h3];simp [L9,Ae,J2,dch]
   ·intro e;exact absurd e h
 rw [f.eq]
 unfold K3 Io
 rw [h1,h2,habs,ea]
 by_cases hb:b=[]
 ·rw [if_pos hb,if_pos (hd.2 hb)]
  cases neg
  ·rw [if_neg (fun e=>Bool.noConfusion (hneg.1 e))];simp
  ·rw [if_pos (hneg.2 rfl)];simp
 ·rw [if_neg hb,if_neg (fun e=>hb (hd.1 e))]
  have eb:L9 (Jm b)=b:=by
   unfold Jm;rw [if_neg hb];exact Lk f.db hb (Or.inl f.hb)
  rw [eb]
  cases neg
  ·rw [if_neg (fun e=>Bool.noConfusion (hneg.1 e))];simp
  ·rw [if_pos (hneg.2 rfl)];simp
theorem Form.of_txt{s:List UInt8}{neg:Bool}{a b:List UInt8}(f:Form s neg a b){q:Rat}(e:s=K3 q):q.num=Ov neg a/\q.den=Jm b:=by
 subst e
 obtain ⟨e1,e2,e3⟩:=f.unique (Fl q)
 subst e1 e2 e3
 constructor
 ·unfold Ov
  rw [Y3]
  by_cases h:q.num<0
  ·simp [h];omega
  ·simp [h];omega
 ·unfold Jm
  by_cases h:q.den=1
  ·simp [h]
  ·simp [h,Se,Y3]
def IsNum(s:List UInt8):Prop:=∃ q,s=K3 q
theorem Form.isNum{s:List UInt8}{neg:Bool}{a b:List UInt8}(f:Form s neg a b):IsNum s↔Nat.gcd (J0 a) (Jm b)=1:=by
 have habs:(Ov neg a).natAbs=J0 a:=by unfold Ov;split<;>simp
 constructor
 ·rintro ⟨q,e⟩
  have:=f.of_txt e
  have hr:=q.reduced
  rw [this.1,this.2,habs] at hr
  exact hr
 ·intro h
  exact ⟨⟨Ov neg a,Jm b,f.den_ne,by rw [habs];exact h⟩,f.txt rfl rfl⟩
theorem IsNum.form{s:List UInt8}(h:IsNum s):∃ neg a b,Form s neg a b:=by
 obtain ⟨q,rfl⟩:=h
 exact ⟨_,_,_,Fl q⟩
def B2g(s:List UInt8):Rat:=
 let neg:=s.head? == some 45
 let t:=if neg then s.drop 1 else s
 mkRat (Ov neg (t.takeWhile fun c=>decide (G1 c))) (Jm ((t.dropWhile fun c=>decide (G1 c)).drop 1))
def rv(s:List UInt8):Rat:=if K3 (B2g s)=s then B2g s else 0
theorem Ka(q:Rat):rv (K3 q)=q:=by
 have f:=Fl q
 have hn:=f.head
 have hr:∀ b:List UInt8,∀ c,(if b=[] then [] else 47::b:List UInt8).head? = some c->¬ G1 c:=by
  intro b c hc
  split at hc
  ·simp at hc
  ·simp at hc;subst hc;decide
 have e:B2g (K3 q)=q:=by
  unfold B2g
  simp only [<- hn]
  generalize hb:(if q.den=1 then [] else L9 q.den)=b at f
  have ht:(if decide (q.num<0)=true then (K3 q).drop 1 else K3 q)=L9 q.num.natAbs++(if b=[] then [] else 47::b):=by
   rw [f.eq]
   by_cases h0:q.num<0<;>simp [h0]
  rw [ht,(Dq f.da (hr b)).1,(Dq f.da (hr b)).2]
  have h1:=f.of_txt rfl
  have h2:(if b=[] then [] else 47::b:List UInt8).drop 1=b:=by
   by_cases h0:b=[]<;>simp [h0]
  rw [h2,<- h1.1,<- h1.2,Rat.mkRat_self]
 unfold rv
 rw [e,if_pos rfl]
theorem A45{s:List UInt8}(h:¬ IsNum s):rv s=0:=by
 unfold rv
 rw [if_neg (fun e=>h ⟨_,e.symm⟩)]
theorem Form.rv_num{s:List UInt8}{neg:Bool}{a b:List UInt8}(f:Form s neg a b)(h:IsNum s):(rv s).num=Ov neg a/\(rv s).den=Jm b:=by
 obtain ⟨q,rfl⟩:=h
 rw [Ka];exact f.of_txt rfl
end Go.Proofs.YtajkakhfcokljaaGreatDoor
