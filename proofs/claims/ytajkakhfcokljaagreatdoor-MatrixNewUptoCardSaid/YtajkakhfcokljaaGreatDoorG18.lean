/-
  Texts of this proof, merged by a program of ours.
-/
import Derived.Test.YtajkakhfcokljaaGreatDoorG16
import Derived.Test.YtajkakhfcokljaaGreatDoorG17
import Derived.Test.YtajkakhfcokljaaGreatDoorG11
open Go.Proofs.Tryz
set_option linter.all false
open Int renaming mul_le_mul_of_nonneg_right->B8t,sign_eq_one_of_pos->B8u,natAbs_natCast->B8v,sign_eq_neg_one_of_neg->B8w,le_of_lt->B8x,natAbs_of_nonneg->B92,natAbs_neg->B93,gcd->B94,toNat_natCast->B95,toNat_of_nonneg->B98,gcd_dvd_right->B9a,mul_comm->B9b,natCast_ediv->B9e,mul_le_mul_of_nonneg_left->B9f,mul_lt_mul_of_pos_right->B9j,tmod_eq_emod_of_nonneg->B9l,natAbs_mul->B9m
open List renaming append_assoc->B8y,length_append->B99,take_length->B9c,eq_nil_of_length_eq_zero->B9d,nil_append->B9i,exists_cons_of_ne_nil->B9k
open Nat renaming pow_pos->B90,pow_succ->B91,mul_le_mul_left->B96,le_refl->B97,strongRecOn->B9g,min_eq_left->B9h
open Rat renaming divInt->B8z
namespace Go.Proofs.YtajkakhfcokljaaGreatDoor
set_option maxRecDepth 20000
open Go
section
variable {h g:Heap} {K:VP} {A B:Option Addr} {ac bc:Nat}
theorem B3f{P:Program}{t e:TypeId}{z:Value}{bytes:Nat}(s:SliceT P t e z 1 bytes){u v:Value}(hu:u.cells=#[u])(hv:v.cells=#[v]){K:VP}{h:Heap}
 (x:∀ b,h b=none->K (.slice (some ⟨b,0,none⟩) 2 2) (h.put b (.cells #[u,v] e))):wpH P (Instr.buildSlice t 2 #[(0,u),(1,v)]) K h:=by
 refine Z5 s (by omega) (cells:=#[u,v]) ?_ x
 have hsz:(E8 z.cells 2).size=2:=by simp [E8,s.cells]
 have:E8 z.cells 2=#[(E8 z.cells 2)[0]'(by omega),(E8 z.cells 2)[1]'(by omega)]:=by
  apply Array.ext
  ·simpa using hsz
  ·intro i h1 h2
   match i with
   | 0=>rfl
   | 1=>rfl
   | i+2=>simp at h2;omega
 rw [this]
 simp [Instr.fill,hu,hv]
theorem Z6{B:Int}(hB:0<B){xs:List Int}(d:Dig B xs){m:Nat}(hl:xs.length=m+1):val B xs<(xs.getD m 0+1)*B^m/\xs.getD m 0*B^m<=val B xs:=by
 have h1:=F7 B xs m
 rw [show m+1=xs.length by omega,B9c] at h1
 have h2:=K7 hB (d.take m)
 have h3:=C4 hB (d.take m)
 rw [List.length_take,B9h (by omega)] at h2
 have e1:(xs.getD m 0+1)*B^m=B^m*xs.getD m 0+B^m:=by grind
 have e2:xs.getD m 0*B^m=B^m*xs.getD m 0:=B9b _ _
 omega
theorem Vx{xs:List Int}{m:Nat}(hl:xs.length=m+1)(hn:Norm xs):xs.getD m 0≠0:=by
 intro e0
 have e:=Em (xs:=xs) (i:=m) (by omega)
 rw [<- hl,B9c,e0] at e
 apply hn
 rw [e];simp
theorem Pi{x y:Int}{an bn:Nat}(ma:Mg h A an x)(mb:Mg h B bn y)(hy:y≠0)(hl:an<=100000000)(hl2:bn<=100000000)
 (hK:∀ A1 m1 c1 A2 m2 c2 h',h.le h'->m1<=c1->m2<=c2->Mg h' A1 m1 (x/y)->Mg h' A2 m2 (x%y)->K (.tuple #[.slice A1 m1 c1,.slice A2 m2 c2]) h'):FCall prog Jd #[.slice A an ac,.slice B bn bc] h K:=by
 have hx0:=ma.nonneg (by decide)
 have hy0:=mb.nonneg (by decide)
 have hb0:=mb.len_zero (by decide)
 have ha1:=ma.lt (by decide)
 have hb1:=mb.lt (by decide)
 refine A44 _ _ _ _ _ _ ?_
 unfold A8a
 refine A0l ma mb (by omega) ⟨_,rfl,B4 (fun h1=>?_) (fun h1=>D8 (fun h2=>?_) (fun h2=>?_))⟩
 ·have hlt:x<y:=by
   by_cases hc:x<y
   ·exact hc
   ·rw [if_neg hc] at h1
    by_cases hc2:x>y
    ·rw [if_pos hc2] at h1;omega
    ·rw [if_neg hc2] at h1;omega
  rw [Int.ediv_eq_zero_of_lt hx0 hlt,Int.emod_eq_of_lt hx0 hlt] at hK
  obtain ⟨xs,rfl,sx,dx,nx,rfl⟩:=ma
  refine A63 Mj ?_
  intro b hb
  refine ⟨_,_,_,rfl,?_⟩
  have hle:=Heap.le_put (h:=h) (b:=b) (.cells #[] C2) hb
  have sx':=SlI.mono hle sx
  refine Jl Mj (Priv.nil _ _ _ _) (ys:=xs.map (Value.int .u32)) (by simp) sx' (fun v hv=>?_) (by omega) (by omega) ?_
  ·obtain ⟨a,_,rfl⟩:=List.mem_map.1 hv;rfl
  ·intro A' c' h' g' hg hp
   rw [B9i] at hp
   have hs:=hp.slV
   simp only [Nat.zero_add] at hp ⊢
   exact ⟨_,_,_,rfl,hK none 0 0 A' xs.length c' h' (Heap.le_trans hle (Heap.le_trans hg hp.le)) (B97 _) hp.2.1 Mag.zero ⟨xs,rfl,hs,dx,nx,rfl⟩⟩
 ·obtain ⟨ys,rfl,sy,dy,ny,rfl⟩:=mb
  have h2':ys.length=1:=by omega
  obtain ⟨d,rfl⟩:∃ d,ys=[d]:=by
   cases ys with
   | nil=>simp at h2'
   | cons d r=>
    cases r with
    | nil=>exact ⟨d,rfl⟩
    | cons _ _=>simp at h2'
  rw [S1] at hy hy0 hK
  have hd:=dy d (by simp)
  refine sy.load rfl (by omega) (by simp) ?_
  show FCall _ _ #[_,U32 d] _ _
  refine Id ma ⟨by omega,hd.2⟩ hl ?_
  intro A' m c' h' hle hm hmn hM
  refine ⟨_,_,_,_,rfl,?_⟩
  refine Q9 Mj rfl ?_
  intro b hb
  refine ⟨_,_,_,rfl,?_⟩
  have hle2:=Heap.le_put (h:=h') (b:=b) (.cells #[U32 (x%d)] C2) hb
  have hr:0<=x%d/\x%d<4294967296:=by
   have h3:=Int.emod_nonneg x (show d≠0 by omega)
   have h4:=Int.emod_lt_of_pos x (show 0<d by omega)
   have h5:=hd.2
   show _/\_<b32
   omega
  refine X8 (xs:=[x%d]) (SlI.new h' b [x%d] C2 _) (Dig.one hr) (B97 _) (by simp) ?_
  intro m2 hm2 hM2
  rw [S1] at hM2
  exact ⟨_,_,_,rfl,hK _ _ _ _ _ _ _ (Heap.le_trans hle hle2) hm (by simpa using hm2) (hM.mono hle2) hM2⟩
 ·have hge:y<=x:=by
   by_cases hc:x<y
   ·rw [if_pos hc] at h1;omega
   ·omega
  have hbn:bn<=an:=mb.len_le (by decide) (Int.lt_of_le_of_lt hge ha1)
  obtain ⟨xs,rfl,sx,dx,nx,rfl⟩:=ma
  obtain ⟨ys,rfl,sy,dy,ny,rfl⟩:=mb
  obtain ⟨mm,hmm⟩:∃ mm,ys.length=mm+2:=⟨ys.length-2,by omega⟩
  have gt:=Az dy (mm+1)
  have ht0:=Vx (m:=mm+1) hmm ny
  obtain ⟨hyt,hyt2⟩:=Z6 (B:=b32) (by decide) dy (m:=mm+1) hmm
  unfold Ye
  refine ⟨fun l h'=>∃ s:Nat,l=[U s]/\h'=h/\s<32/\ys.getD (mm+1) 0*2^s<4294967296,fun l _=>32-(iAt l 0).toNat,⟨0,rfl,rfl,by omega,by rw [Int.pow_zero,Int.mul_one];exact gt.2⟩,?_⟩
  rintro si hp6 ⟨s,hl1,rfl,hs,hts⟩
  obtain rfl:=sI1 hl1
  have e1:B3 ((ys.length:Int)-1)=((mm+1:Nat):Int):=by rw [B5 (by omega) (by omega)];omega
  rw [e1]
  refine sy.load rfl (by omega) (by omega) ?_
  refine B4 (fun e=>absurd e (by omega)) (fun _=>?_)
  have hps:0<(2:Int)^s:=Int.pow_pos (by decide)
  have hge1:2^s<=ys.getD (mm+1) 0*2^s:=by
   have:=B8t (show 1<=ys.getD (mm+1) 0 by omega) (B8x hps);omega
  have e2:F3 (ys.getD (((mm+1:Nat):Int)).toNat 0*2^(min ((s:Int)).toNat 32))=ys.getD (mm+1) 0*2^s:=by
   rw [B95,B95,B9h (by omega),L4 (by omega) hts]
  refine B4 (fun h3=>?_) (fun h3=>?_)
  ·rw [e2] at h3
   have hs31:s+1<32:=by
    by_cases hc:s+1<32
    ·exact hc
    ·have:s=31:=by omega
     subst this
     have:(2:Int)^31=2147483648:=by decide
     omega
   have e3:B7 ((s:Int)+1)=((s+1:Nat):Int):=by rw [C0 (by omega) (by omega)];omega
   rw [e3]
   refine ⟨⟨s+1,rfl,rfl,hs31,?_⟩,by simp only [iAt,List.getElem?_cons_zero];omega⟩
   rw [Int.pow_succ,<- Int.mul_assoc];omega
  ·rw [e2] at h3
   have hY1:val b32 ys*2^s<b32^(mm+2):=by
    have hsp:=Ia (Nat.le_of_lt hs)
    have t1:ys.getD (mm+1) 0+1<=2^(32-s):=by
     by_cases hc:ys.getD (mm+1) 0+1<=2^(32-s)
     ·exact hc
     ·have:=B8t (show (2:Int)^(32-s)<=ys.getD (mm+1) 0 by omega) (B8x hps)
      rw [B9b,hsp] at this;omega
    have t2:val b32 ys*2^s<(ys.getD (mm+1) 0+1)*b32^(mm+1)*2^s:=B9j hyt hps
    have t3:(ys.getD (mm+1) 0+1)*b32^(mm+1)*2^s=(ys.getD (mm+1) 0+1)*2^s*b32^(mm+1):=by grind
    have t4:(ys.getD (mm+1) 0+1)*2^s*b32^(mm+1)<=4294967296*b32^(mm+1):=by
     apply B8t _ (B8x (D4 (by decide) _))
     rw [<- hsp,B9b (2^s)]
     exact B8t t1 (B8x hps)
    rw [Int.pow_succ b32 (mm+1),B9b (b32^(mm+1))]
    show _<(4294967296:Int)*_
    omega
   have hY2:2147483648*b32^(mm+1)<=val b32 ys*2^s:=by
    have t1:ys.getD (mm+1) 0*b32^(mm+1)*2^s<=val b32 ys*2^s:=B8t hyt2 (B8x hps)
    have t2:2147483648*b32^(mm+1)<=ys.getD (mm+1) 0*2^s*b32^(mm+1):=B8t (by omega) (B8x (D4 (by decide) _))
    have t3:ys.getD (mm+1) 0*2^s*b32^(mm+1)=ys.getD (mm+1) 0*b32^(mm+1)*2^s:=by grind
    omega
   refine Gq sy dy hs (by omega) ?_
   intro bv zv hbv hzvl hdv hvv
   refine ⟨_,_,_,rfl,?_⟩
   rw [<- hzvl]
   refine X8 (Ci _ _ _ _ _) hdv (B97 _) (by omega) ?_
   intro n hn hMv
   refine ⟨_,_,_,rfl,?_⟩
   rw [hvv] at hMv
   have hn2:n=mm+2:=by
    have l1:=hMv.len_le (by decide) hY1
    have l2:=hMv.lt (by decide)
    by_cases hc:n=mm+2
    ·exact hc
    ·have:=C8 (B:=b32) (by decide) (show n<=mm+1 by omega)
     have:=D4 (B:=b32) (by decide) (mm+1)
     omega
   subst hn2
   obtain ⟨vs,hvl,sv,dv,nv,hvv2⟩:=hMv
   have hv1:4294967296<=2*vs.getD (mm+1) 0:=by
    obtain ⟨q1,q2⟩:=Z6 (B:=b32) (by decide) dv (m:=mm+1) hvl.symm
    rw [hvv2] at q1
    have:2147483648<vs.getD (mm+1) 0+1:=by
     by_cases hc:2147483648<vs.getD (mm+1) 0+1
     ·exact hc
     ·have:=B8t (show vs.getD (mm+1) 0+1<=2147483648 by omega) (B8x (D4 (B:=b32) (by decide) (mm+1)));omega
    omega
   have hle1:=V1 (k:=.u32) (e:=C2) hbv zv
   refine Gq (SlI.mono hle1 sx) dx hs (by omega) ?_
   intro bu us hbu hul hdu huv
   refine ⟨_,_,_,rfl,?_⟩
   obtain ⟨nq,hnq⟩:∃ nq,xs.length+1=nq+(mm+2):=⟨xs.length+1-(mm+2),by omega⟩
   have e4:B3 (B3 (B3 (((xs.length+1:Nat):Int)-((mm+2:Nat):Int))-1)+1)=(nq:Int):=by
    rw [B5 (n:=((xs.length+1:Nat):Int)-((mm+2:Nat):Int)) (by omega) (by omega),B5 (n:=_-(1:Int)) (by omega) (by omega),B5 (by omega) (by omega)];omega
   rw [e4]
   refine J5 Mj (by omega) (by omega) (by omega) ?_
   intro bq hbq
   rw [B95]
   refine ⟨_,_,_,rfl,?_⟩
   have hne:bu≠bq:=by
    rintro rfl
    unfold blk at hbq
    rw [B9] at hbq;cases hbq
   have hbq':blk .u32 C2 hp6 bv zv bq=none:=by
    have:=hbq
    unfold blk at this ⊢
    rwa [B6 _ _ hne.symm] at this
   refine A3r (us0:=us) (N:=xs.length+1) hbu hbq' hne sv dv hvl.symm hv1 hs hvv2 rfl hdu hul huv hnq (by omega) (by omega) ?_ ?_
   ·have s1:=F0 b32 us (i:=nq) (by omega)
    have s2:=C4 (by decide) (hdu.take nq)
    have s3:val b32 us<b32^xs.length*2^s:=by
     rw [huv];exact B9j ha1 hps
    have s4:b32^(mm+1)<=val b32 ys:=by
     have:=B8t (show 1<=ys.getD (mm+1) 0 by omega) (B8x (D4 (B:=b32) (by decide) (mm+1)));omega
    have s5:b32^nq*(b32^(mm+1)*2^s)<=b32^nq*(val b32 ys*2^s):=B9f (B8t s4 (B8x hps)) (B8x (D4 (by decide) nq))
    have s6:b32^nq*(b32^(mm+1)*2^s)=b32^xs.length*2^s:=by
     rw [<- Int.mul_assoc,<- Int.pow_add,show nq+(mm+1)=xs.length by omega]
    by_cases hc:val b32 (us.drop nq)<val b32 ys*2^s
    ·exact hc
    ·have:=B9f (show val b32 ys*2^s<=val b32 (us.drop nq) by omega) (B8x (D4 (B:=b32) (by decide) nq));omega
   ·intro A1 m1 c1 A2 m2 c2 h' hle hm1 hm2 hM1 hM2
    exact hK _ _ _ _ _ _ _ (Heap.le_trans hle1 hle) hm1 hm2 hM1 hM2
end
def A29(h:Heap)(A:Option Addr)(len:Nat):List Int:=(List.range len).map fun i=>
 match A with
 | some a=>(match h.cell? (a.add i) with|some (.int _ n)=>n|_=>0)
 | none=>0
def A5u(B:Int)(h:Heap)(A:Option Addr)(len:Nat):Nat:=(val B (A29 h A len)).toNat
theorem A79{k:IntKind}{h:Heap}{A:Option Addr}{xs:List Int}(s:SlI k h A xs):A29 h A xs.length=xs:=by
 apply List.ext_getElem
 ·simp [A29]
 ·intro i h1 h2
  obtain ⟨a,ha,hc⟩:=SlV.at s (i:=i) (by simpa using h2)
  subst ha
  simp [A29,hc]
theorem V5{k:IntKind}{B:Int}{h:Heap}{A:Option Addr}{len:Nat}{n:Int}(m:Mag k B h A len n):A5u B h A len=n.toNat:=by
 obtain ⟨xs,rfl,s,_,_,rfl⟩:=m
 unfold A5u
 rw [A79 s]
def ZB(m:Nat)(z:Int):Prop:=z.natAbs<2^m
theorem ZB.mono{m n:Nat}{z:Int}(h:ZB m z)(hm:m<=n):ZB n z:=Nat.lt_of_lt_of_le h (Nat.pow_le_pow_right (by decide) hm)
theorem ZB.neg{m:Nat}{z:Int}(h:ZB m z):ZB m (-z):=by unfold ZB at *;rwa [B93]
theorem ZB.add{m:Nat}{x y:Int}(hx:ZB m x)(hy:ZB m y):ZB (m+1) (x+y):=by
 unfold ZB at *;rw [B91]
 have:=Int.natAbs_add_le x y;omega
theorem ZB.sub{m:Nat}{x y:Int}(hx:ZB m x)(hy:ZB m y):ZB (m+1) (x-y):=by
 rw [Int.sub_eq_add_neg];exact hx.add hy.neg
theorem ZB.mul{m n:Nat}{x y:Int}(hx:ZB m x)(hy:ZB n y):ZB (m+n) (x*y):=by
 unfold ZB at *;rw [B9m,Nat.pow_add]
 have h1:x.natAbs*y.natAbs<=x.natAbs*2^n:=B96 _ (Nat.le_of_lt hy)
 have h2:x.natAbs*2^n<2^m*2^n:=Nat.mul_lt_mul_of_pos_right hx (B90 (by decide))
 omega
theorem ZB.le{m:Nat}{x y:Int}(hx:ZB m x)(h:y.natAbs<=x.natAbs):ZB m y:=Nat.lt_of_le_of_lt h hx
theorem ZB.one{m:Nat}(h:1<=m):ZB m 1:=ZB.mono (m:=1) (by unfold ZB;decide) h
theorem ZB.zero{m:Nat}:ZB m 0:=B90 (by decide)
theorem A61{k:IntKind}{j:Nat}(hj:0<j){h:Heap}{A:Option Addr}{n m:Nat}{x:Int}(M:Mag k ((2:Int)^j) h A n x)(hx:x<2^m):n<=m/j+1:=by
 refine M.len_le ?_ ?_
 ·have:=C8 (B:=2) (by decide) hj;omega
 ·have e:((2:Int)^j)^(m/j+1)=2^(j*(m/j+1)):=by rw [Int.pow_mul]
  rw [e]
  have:m<=j*(m/j+1):=by
   have h1:=Nat.div_add_mod m j
   have h2:=Nat.mod_lt m hj
   rw [Nat.mul_add];omega
  have:=C8 (B:=2) (by decide) this
  omega
structure NI (h:Heap) (s:Bool) (A:Option Addr) (n c:Nat) (z:Int):Prop where
 mag:Mg h A n (z.natAbs:Int)
 sg:s=decide (z<0)
 cap:n<=c
section
variable {h h':Heap} {K:VP} {A B:Option Addr} {n c n' c':Nat} {s s':Bool} {x y z:Int} {m:Nat}
theorem NI.mono(hl:h.le h')(i:NI h s A n c z):NI h' s A n c z:=⟨i.mag.mono hl,i.sg,i.cap⟩
theorem NI.len(i:NI h s A n c z)(hz:ZB m z)(hm:m<=1000000000):n<=100000000:=by
 have:=A61 (j:=32) (by decide) i.mag (m:=m) (by unfold ZB at hz;have:((z.natAbs:Nat):Int)<((2^m:Nat):Int):=by omega
                                                simpa using this)
 omega
theorem NI.zero_iff(i:NI h s A n c z):n=0↔z=0:=by
 have:=i.mag.len_zero (by decide)
 omega
theorem NI.nil:NI h false A 0 0 0:=⟨Mag.zero,rfl,B97 _⟩
theorem S9{neg:Bool}{x:Int}(M:Mg h A n x)(hc:n<=c)(hK:∀ s,NI h s A n c (if neg then -x else x)->K (.agg #[.bool s,.slice A n c]) h):FCall prog Y8 #[.bool neg,.slice A n c] h K:=by
 have h0:=M.nonneg (by decide)
 have hz:=M.len_zero (by decide)
 refine A89 _ _ _ _ ?_
 unfold B2g
 refine Br.of (fun e=>?_) (fun e=>?_)
 ·subst e
  refine hK _ ⟨?_,?_,hc⟩
  ·have:(((if true=true then -x else x).natAbs:Nat):Int)=x:=by simp;omega
   rw [this];exact M
  ·simp;omega
 ·subst e
  refine hK _ ⟨?_,?_,hc⟩
  ·have:(((if false=true then -x else x).natAbs:Nat):Int)=x:=by simp;omega
   rw [this];exact M
  ·simp;omega
theorem Wz(hz: -9223372036854775808<=z/\z<=9223372036854775807)(hK:∀ s A n c h',h.le h'->NI h' s A n c z->K (.agg #[.bool s,.slice A n c]) h'):FCall prog Kt #[I z] h K:=by
 refine A15 _ ?_
 unfold A2m
 refine ⟨fun l h'=>l=[U z.natAbs]/\h'=h,B4 (fun h1=>⟨?_,rfl⟩) (fun h1=>⟨?_,rfl⟩),?_⟩
 ·have:B7 (0-B7 z)=z.natAbs:=by rw [F4,F4];omega
  rw [this]
 ·have:B7 z=z.natAbs:=by rw [F4];omega
  rw [this]
 ·rintro u hp ⟨hl,rfl⟩
  obtain rfl:u=(z.natAbs:Int):=by simpa using hl
  rw [X5,Tj,L4 (n:=(z.natAbs:Int)/4294967296) (by omega) (by omega)]
  refine B3f Mj rfl rfl ?_
  intro b hb
  refine ⟨_,_,_,rfl,?_⟩
  have hd:Dig b32 [(z.natAbs:Int)%4294967296,(z.natAbs:Int)/4294967296]:=by
   intro d hd
   simp only [List.mem_cons,List.not_mem_nil,or_false] at hd
   show _/\_<(4294967296:Int)
   rcases hd with rfl|rfl<;>omega
  refine X8 (xs:=[(z.natAbs:Int)%4294967296,(z.natAbs:Int)/4294967296]) (SlI.new hp b _ C2 _) hd (B97 _) (by simp) ?_
  intro m hm hM
  have hv:val b32 [(z.natAbs:Int)%4294967296,(z.natAbs:Int)/4294967296]=z.natAbs:=by
   simp only [val]
   show _+(4294967296:Int)*(_+4294967296*0)=_
   omega
  rw [hv] at hM
  refine ⟨_,_,_,rfl,?_⟩
  refine S9 hM (by simpa using hm) ?_
  intro s i
  refine ⟨_,_,_,_,rfl,hK _ _ _ _ _ (Heap.le_put _ hb) ?_⟩
  have:(if decide (z<0)=true then -(z.natAbs:Int) else (z.natAbs:Int))=z:=by
   by_cases h0:z<0
   ·rw [if_pos (by simpa using h0)];omega
   ·rw [if_neg (by simpa using h0)];omega
  rw [this] at i
  exact i
theorem A59(i:NI h s A n c z)(hK:K (I z.sign) h):FCall prog A09 #[.agg #[.bool s,.slice A n c]] h K:=by
 have hz:=i.zero_iff
 have hs:=i.sg
 refine B0w _ _ _ _ ?_
 unfold B63
 refine Br.of (fun e=>?_) (fun e=>?_)
 ·have h0:z<0:=by rw [hs] at e;simpa using e
  rw [B8w h0] at hK;exact hK
 ·have h0:¬ z<0:=by rw [hs] at e;simpa using e
  refine D8 (fun e=>?_) (fun e=>?_)
  ·have:z=0:=by omega
   subst this;exact hK
  ·rw [B8u (by omega)] at hK;exact hK
theorem A1v(i:NI h s A n c z)(hK:∀ s,NI h s A n c (-z)->K (.agg #[.bool s,.slice A n c]) h):FCall prog A24 #[.agg #[.bool s,.slice A n c]] h K:=by
 refine B48 _ _ _ _ ?_
 unfold B8j
 refine S9 i.mag i.cap ?_
 intro s' i'
 refine ⟨_,_,_,_,rfl,hK _ ?_⟩
 have:(if (!s)=true then -(z.natAbs:Int) else (z.natAbs:Int))= -z:=by
  rw [i.sg]
  by_cases h0:z<0
  ·rw [if_neg (by simpa using h0)];omega
  ·rw [if_pos (by simpa using h0)];omega
 rw [this] at i';exact i'
theorem A58(x y:Int)(p:Nat)(hs:s=decide (x<0))(hs':s'=decide (y<0)):(if (!(s==s'))=true then -(p:Int) else (p:Int))=x.sign*y.sign*p\/x=0\/y=0:=by
 by_cases h1:x=0
 ·right;left;exact h1
 by_cases h2:y=0
 ·right;right;exact h2
 left
 by_cases h3:x<0<;>by_cases h4:y<0
 ·rw [B8w h3,B8w h4,if_neg (by rw [hs,hs'];simp [h3,h4])];omega
 ·rw [B8w h3,B8u (by omega),if_pos (by rw [hs,hs'];simp [h3,h4])];omega
 ·rw [B8u (by omega),B8w h4,if_pos (by rw [hs,hs'];simp [h3,h4])];omega
 ·rw [B8u (by omega),B8u (by omega),if_neg (by rw [hs,hs'];simp [h3,h4])];omega
theorem A2u(x y:Int):x.tdiv y=x.sign*y.sign*((x.natAbs/y.natAbs:Nat):Int):=by
 have key:∀ a b:Nat,(a:Int).tdiv b=(a:Int).sign*(b:Int).sign*((a/b:Nat):Int):=by
  intro a b
  rw [<- Int.ofNat_tdiv]
  by_cases ha:a=0
  ·subst ha;simp
  by_cases hb:b=0
  ·subst hb;simp
  rw [B8u (by omega),B8u (by omega),Int.one_mul,Int.one_mul]
 obtain ⟨a,rfl|rfl⟩:=Int.eq_nat_or_neg x<;>obtain ⟨b,rfl|rfl⟩:=Int.eq_nat_or_neg y<;>simp only [Int.neg_tdiv,Int.tdiv_neg,Int.sign_neg,B93,B8v,key]<;>grind
theorem Ob(ia:NI h s A n c x)(ib:NI h s' B n' c' y)(hy0:y≠0)(hx:ZB m x)(hy:ZB m y)(hm:m<=1000000000)(hK:∀ s A n c s' B n' c' h',h.le h'->NI h' s A n c (x.tdiv y)->NI h' s' B n' c' (x.tmod y)->K (.tuple #[.agg #[.bool s,.slice A n c],.agg #[.bool s',.slice B n' c']]) h'):FCall prog Jc #[.agg #[.bool s,.slice A n c],.agg #[.bool s',.slice B n' c']] h K:=by
 refine A42 _ _ _ _ _ _ _ _ ?_
 unfold A86
 refine Pi ia.mag ib.mag (by omega) (ia.len hx hm) (ib.len hy hm) ?_
 intro A1 m1 c1 A2 m2 c2 h1 hle hc1 hc2 M1 M2
 refine ⟨_,_,_,_,_,_,rfl,?_⟩
 refine S9 M1 hc1 ?_
 intro s1 i1
 refine ⟨_,_,_,_,rfl,B0 _,?_⟩
 refine S9 M2 hc2 ?_
 intro s2 i2
 refine ⟨_,_,_,_,rfl,B0 _,hK _ _ _ _ _ _ _ _ _ hle ?_ ?_⟩
 ·have:(if (!(s==s'))=true then -((x.natAbs:Int)/y.natAbs) else (x.natAbs:Int)/y.natAbs)=x.tdiv y:=by
   rcases A58 x y (x.natAbs/y.natAbs) ia.sg ib.sg with e|e|e
   ·rw [B9e] at e
    rw [e,A2u,B9e]
   ·subst e;simp
   ·exact absurd e hy0
  rw [this] at i1;exact i1
 ·have:(if s=true then -((x.natAbs:Int)%y.natAbs) else (x.natAbs:Int)%y.natAbs)=x.tmod y:=by
   rw [ia.sg]
   by_cases h0:x<0
   ·rw [if_pos (by simpa using h0)]
    obtain ⟨k,rfl⟩:∃ k:Nat,x= -(k:Int):=⟨x.natAbs,by omega⟩
    rw [Int.neg_tmod,B93,B8v]
    congr 1
    rw [<- B9l (by omega)]
    by_cases h2:y<0
    ·obtain ⟨j,rfl⟩:∃ j:Nat,y= -(j:Int):=⟨y.natAbs,by omega⟩
     rw [Int.tmod_neg,B93,B8v]
    ·rw [B92 (by omega)]
   ·rw [if_neg (by simpa using h0)]
    rw [B92 (by omega),<- B9l (by omega)]
    by_cases h2:y<0
    ·obtain ⟨j,rfl⟩:∃ j:Nat,y= -(j:Int):=⟨y.natAbs,by omega⟩
     rw [Int.tmod_neg,B93,B8v]
    ·rw [B92 (by omega)]
  rw [this] at i2;exact i2
end
def L0(n:Nat):Nat:=if n=0 then 0 else Nat.log2 n+1
theorem Xk:L0 0=0:=rfl
theorem A7b{n:Nat}(h:n≠0):L0 n=L0 (n/2)+1:=by
 unfold L0
 rw [if_neg h]
 by_cases h1:n/2=0
 ·have:n=1:=by omega
  subst this;rfl
 ·rw [if_neg h1,Nat.log2_def n,if_pos (by omega)]
theorem Cj{n:Nat}(h:n≠0):2^(L0 n-1)<=n/\n<2^L0 n:=by
 unfold L0
 rw [if_neg h,Nat.add_sub_cancel]
 exact ⟨Nat.log2_self_le h,Nat.lt_log2_self⟩
theorem A0s{n k:Nat}(h1:2^k<=n)(h2:n<2^(k+1)):L0 n=k+1:=by
 have h0:n≠0:=by have:=B90 (n:=k) (show 0<2 by decide);omega
 unfold L0
 rw [if_neg h0]
 have a:=(Nat.le_log2 h0).2 h1
 have b:=(Nat.log2_lt h0).2 h2
 omega
theorem Sc{l t j:Nat}(hl:l<2^j)(ht:t≠0):L0 (l+2^j*t)=j+L0 t:=by
 obtain ⟨a,b⟩:=Cj ht
 have hb:L0 t=L0 t-1+1:=by unfold L0;rw [if_neg ht];omega
 have hp:0<2^j:=B90 (by decide)
 rw [hb,<- Nat.add_assoc]
 apply A0s
 ·rw [Nat.pow_add]
  have:=B96 (2^j) a
  omega
 ·rw [Nat.add_assoc,<- hb,Nat.pow_add]
  have:=B96 (2^j) (show t+1<=2^L0 t by omega)
  rw [Nat.mul_add] at this;omega
theorem Fg{n k:Nat}(h:n<2^k):L0 n<=k:=by
 by_cases h0:n=0
 ·subst h0;rw [Xk];omega
 ·unfold L0;rw [if_neg h0];have:=(Nat.log2_lt h0).2 h;omega
theorem A2b{n:Nat}:L0 n=1↔n=1:=by
 constructor
 ·intro h
  by_cases h0:n=0
  ·subst h0;cases h
  ·have:=Cj h0
   rw [h] at this;simp at this;omega
 ·rintro rfl;rfl
theorem A0t{n:Nat}:1<L0 n↔1<n:=by
 by_cases h0:n=0
 ·subst h0;simp [L0]
 by_cases h1:n=1
 ·subst h1;decide
 ·have h2:L0 n≠0:=by unfold L0;rw [if_neg h0];omega
  have h3:L0 n≠1:=fun e=>h1 (A2b.1 e)
  omega
section
variable {h h':Heap} {K:VP} {A B:Option Addr} {n c n' c':Nat} {s s':Bool} {x y z:Int} {m:Nat}
theorem B00(ia:NI h s A n c x)(ib:NI h s' B n' c' y)(hx:ZB m x)(hy:ZB m y)(hm:m<=1000000000)(hK:∀ s A n c h',h.le h'->NI h' s A n c (B94 x y)->K (.agg #[.bool s,.slice A n c]) h'):FCall prog A6n #[.agg #[.bool s,.slice A n c],.agg #[.bool s',.slice B n' c']] h K:=by
 refine B49 _ _ _ _ _ _ _ _ ?_
 unfold B8k
 refine ⟨fun l hp=>∃ (A B:Option Addr) (n c n' c' X Y:Nat),l=[.slice A n c,.slice B n' c']/\h.le hp/\Mg hp A n X/\Mg hp B n' Y/\n<=c/\n'<=c'/\Nat.gcd X Y=B94 x y/\n<=100000000/\n'<=100000000,fun l hp=>match l with|[_,.slice A n _]=>A5u b32 hp A n|_=>0,⟨_,_,_,_,_,_,_,_,rfl,B0 h,ia.mag,ib.mag,ia.cap,ib.cap,rfl,ia.len hx hm,ib.len hy hm⟩,?_⟩
 rintro A1 n1 c1 B1 n2 c2 hp ⟨A1',B1',n1',c1',n2',c2',X,Y,hl,hle,M1,M2,k1,k2,hg,q1,q2⟩
 obtain ⟨⟨rfl,rfl,rfl⟩,rfl,rfl,rfl⟩:(A1=A1'/\n1=n1'/\c1=c1')/\B1=B1'/\n2=n2'/\c2=c2':=by simpa using hl
 have hz:=M2.len_zero (by decide)
 refine B4 (fun h1=>?_) (fun h1=>?_)
 ·have hY:Y≠0:=by omega
  refine Pi M1 M2 (by omega) q1 q2 ?_
  intro A3 m3 c3 A4 m4 c4 h' hle' k3 k4 M3 M4
  have hmod:((X:Int)%(Y:Int))=((X%Y:Nat):Int):=by omega
  rw [hmod] at M4
  have hlt:=Nat.mod_lt X (Nat.pos_of_ne_zero hY)
  refine ⟨_,_,_,_,_,_,rfl,⟨_,_,_,_,_,_,Y,X%Y,rfl,Heap.le_trans hle hle',M2.mono hle',M4,k2,k4,?_,q2,?_⟩,?_⟩
  ·rw [<- hg,Nat.gcd_comm X Y,Nat.gcd_rec Y X,Nat.gcd_comm]
  ·have:=M4.len_le (by decide) (j:=n2) (Int.lt_trans (show ((X%Y:Nat):Int)<(Y:Int) by omega) (M2.lt (by decide)))
   omega
  ·simp only [V5 M4,V5 M2];omega
 ·have hY:Y=0:=by omega
  subst hY
  rw [Nat.gcd_zero_right] at hg
  refine S9 M1 k1 ?_
  intro s1 i1
  refine ⟨_,_,_,_,rfl,hK _ _ _ _ _ hle ?_⟩
  rw [hg] at i1
  exact i1
theorem Xl(i:NI h s A n c z)(hz:ZB m z)(hm:m<=1000000000)(hK:K (I (L0 z.natAbs)) h):FCall prog Ug #[.agg #[.bool s,.slice A n c]] h K:=by
 have hl:=i.len hz hm
 have h0:=i.zero_iff
 refine B10 _ _ _ _ ?_
 unfold B67
 refine D8 (fun e=>?_) (fun e=>?_)
 ·have:z=0:=h0.1 (by omega)
  subst this;exact hK
 ·obtain ⟨xs,hxl,sx,dx,nx,hv⟩:=i.mag
  obtain ⟨k,hk⟩:∃ k,xs.length=k+1:=⟨xs.length-1,by omega⟩
  have e1:B3 ((n:Int)-1)=(k:Int):=by rw [B5 (by omega) (by omega)];omega
  have e2:B3 (32*(k:Int))=((32*k:Nat):Int):=by rw [B5 (by omega) (by omega)];omega
  rw [e1,e2]
  refine sx.load hxl (by omega) (by omega) ?_
  rw [B95]
  have gx:=Az dx k
  have ht:=Vx hk nx
  have hb:32*k+L0 (xs.getD k 0).toNat=L0 z.natAbs:=by
   have v1:=F7 b32 xs k
   rw [<- hk,B9c] at v1
   have v2:=K7 (by decide) (dx.take k)
   have v3:=C4 (by decide) (dx.take k)
   rw [List.length_take,B9h (by omega)] at v2
   have ep:b32^k=((2^(32*k):Nat):Int):=by
    rw [show b32=(2:Int)^32 by decide,<- Int.pow_mul];simp
   have e3:z.natAbs=(val b32 (xs.take k)).toNat+2^(32*k)*(xs.getD k 0).toNat:=by
    have:((z.natAbs:Nat):Int)=(((val b32 (xs.take k)).toNat+2^(32*k)*(xs.getD k 0).toNat:Nat):Int):=by
     rw [<- hv,v1,Int.natCast_add,Int.natCast_mul,<- ep,B98 v3,B98 gx.1]
    omega
   rw [e3,Sc (by omega) (by omega)]
  refine ⟨fun l hp=>∃ (t k:Nat),l=[I k,U32 t]/\hp=h/\k+L0 t=L0 z.natAbs/\t<4294967296,fun l _=>(iAt l 1).toNat,⟨(xs.getD k 0).toNat,32*k,?_,rfl,hb,by omega⟩,?_⟩
  ·rw [B98 gx.1]
  ·rintro k2 t2 hp ⟨t,k3,hli,rfl,hbl,htl⟩
   obtain ⟨rfl,rfl⟩:k2=(k3:Int)/\t2=(t:Int):=by simpa using hli
   have hbz:L0 z.natAbs<=m:=Fg hz
   refine B4 (fun h1=>?_) (fun h1=>?_)
   ·have e3:Int.fdiv (t:Int) (2^(min ((1:Int)).toNat 32))=((t/2:Nat):Int):=by
     rw [show (2:Int)^(min ((1:Int)).toNat 32)=2 by decide,Int.fdiv_eq_ediv_of_nonneg _ (by decide)];omega
    have hh:=A7b (n:=t) (by omega)
    have e4:B3 ((k3:Int)+1)=((k3+1:Nat):Int):=by rw [B5 (by omega) (by omega)];omega
    rw [e3,e4]
    exact ⟨⟨t/2,k3+1,rfl,rfl,by omega,by omega⟩,by simp only [iAt,List.getElem?_cons_zero,List.getElem?_cons_succ];omega⟩
   ·have:t=0:=by omega
    subst this
    rw [Xk,Nat.add_zero] at hbl
    rw [hbl];exact hK
end
structure QV where
 s:Bool
 A:Option Addr
 n:Nat
 c:Nat
 s2:Bool
 A2:Option Addr
 n2:Nat
 c2:Nat
abbrev QV.v(w:QV):Value:=.agg #[.bool w.s,.slice w.A w.n w.c,.bool w.s2,.slice w.A2 w.n2 w.c2]
structure NQ (h:Heap) (w:QV) (q:Rat):Prop where
 num:NI h w.s w.A w.n w.c q.num
 den:NI h w.s2 w.A2 w.n2 w.c2 (if q.den=1 then 0 else (q.den:Int))
structure Sz (m:Nat) (q:Rat):Prop where
 num:ZB m q.num
 den:ZB m q.den
theorem Sz.mono{m n:Nat}{q:Rat}(h:Sz m q)(hm:m<=n):Sz n q:=⟨h.num.mono hm,h.den.mono hm⟩
theorem Sz.neg{m:Nat}{q:Rat}(h:Sz m q):Sz m (-q):=⟨by rw [Rat.neg_num];exact h.num.neg,by rw [Rat.neg_den];exact h.den⟩
theorem Xf{a b:Int}(hb:b≠0):(B8z a b).num.natAbs<=a.natAbs/\(B8z a b).den<=b.natAbs:=by
 have hg:0<B94 b a:=Int.gcd_pos_of_ne_zero_left a hb
 rw [Rat.num_divInt,Rat.den_divInt,if_neg hb]
 constructor
 ·have hd:(B94 b a:Int)∣b.sign*a:=Int.dvd_mul_of_dvd_right (B9a b a)
  rw [Int.natAbs_ediv_of_dvd hd,B9m,B8v]
  have:b.sign.natAbs=1:=by
   rw [Int.natAbs_sign];simp [hb]
  rw [this,Nat.one_mul]
  exact Nat.div_le_self _ _
 ·exact Nat.div_le_self _ _
theorem Jx{m:Nat}{a b:Int}(hb:b≠0)(h1:ZB m a)(h2:ZB m b):Sz m (B8z a b):=by
 have:=Xf (a:=a) hb
 exact ⟨h1.le this.1,h2.le (by simpa using this.2)⟩
theorem A37(p q:Rat):p*q=B8z (p.num*q.num) (p.den*q.den):=by
 rw [Rat.mul_def',<- Int.natCast_mul,Rat.divInt_ofNat]
theorem Rz(z:Int):B8z z 1=(z:Rat):=by
 show B8z z ((1:Nat):Int)=_
 rw [Rat.divInt_ofNat]
 apply Rat.ext
 ·rw [Rat.num_mkRat];simp
 ·rw [Rat.den_mkRat];simp
theorem den_ne(q:Rat):(q.den:Int)≠0:=by have:=q.den_nz;omega
theorem Sz.mul{m n:Nat}{p q:Rat}(hp:Sz m p)(hq:Sz n q):Sz (m+n) (p*q):=by
 rw [A37]
 exact Jx (Int.mul_ne_zero (den_ne p) (den_ne q)) (hp.num.mul hq.num) (hp.den.mul hq.den)
theorem Sz.zero{m:Nat}(hm:1<=m):Sz m 0:=⟨ZB.zero,ZB.one hm⟩
theorem Sz.inv{m:Nat}{q:Rat}(h:Sz m q)(hm:1<=m):Sz m q⁻¹:=by
 constructor
 ·rw [Rat.num_inv]
  refine h.den.le ?_
  rw [B9m]
  by_cases h0:q.num=0
  ·rw [h0];simp
  ·rw [Int.natAbs_sign];simp [h0]
 ·rw [Rat.den_inv]
  split
  ·exact ZB.one hm
  ·have:=h.num
   unfold ZB at *
   simpa using this
theorem Sz.div{m n:Nat}{p q:Rat}(hp:Sz m p)(hq:Sz n q)(hn:1<=n):Sz (m+n) (p/q):=by
 rw [Rat.div_def];exact hp.mul (hq.inv hn)
theorem Sz.int{m:Nat}{z:Int}(h:ZB m z)(hm:1<=m):Sz m (z:Rat):=⟨by simpa using h,by simpa using ZB.one hm⟩
section
variable {h h':Heap} {K:VP} {A B:Option Addr} {n c n' c':Nat} {s s':Bool} {x y z:Int} {m:Nat} {p q:Rat} {a b w:QV}
theorem NQ.mono(hl:h.le h')(i:NQ h w q):NQ h' w q:=⟨i.num.mono hl,i.den.mono hl⟩
theorem NQ.whole(i:NI h s A n c z){B:Option Addr}:NQ h ⟨s,A,n,c,false,B,0,0⟩ (z:Rat):=⟨by simpa using i,by simpa using NI.nil⟩
theorem NQ.den_zero(i:NQ h w q):w.n2=0↔q.den=1:=by
 rw [i.den.zero_iff]
 have:=q.den_nz
 split<;>omega
theorem NQ.zero:NQ h ⟨false,none,0,0,false,none,0,0⟩ 0:=⟨NI.nil,NI.nil⟩
theorem A6a(ix:NI h s A n c x)(iy:NI h s' B n' c' y)(hy0:y≠0)(hx:ZB m x)(hy:ZB m y)(hm:m<=1000000000)(hK:∀ w h',h.le h'->NQ h' w (B8z x y)->K w.v h'):FCall prog A0c #[.agg #[.bool s,.slice A n c],.agg #[.bool s',.slice B n' c']] h K:=by
 refine B0z _ _ _ _ _ _ _ _ ?_
 unfold B66
 refine ⟨fun l hp=>∃ s A n c s' B n' c' x' y',l=[.bool s,.slice A n c,.bool s',.slice B n' c']/\h.le hp/\NI hp s A n c x'/\NI hp s' B n' c' y'/\0<y'/\B8z x' y'=B8z x y/\ZB m x'/\ZB m y',Br.of (fun e=>?_) (fun e=>?_),?_⟩
 ·have hneg:y<0:=by have:=iy.sg;rw [e] at this;simpa using this.symm
  refine A1v ix ?_
  intro s1 i1
  refine ⟨_,_,_,_,rfl,B0 h,?_⟩
  refine A1v iy ?_
  intro s2 i2
  exact ⟨_,_,_,_,rfl,B0 h,_,_,_,_,_,_,_,_,-x,-y,rfl,B0 h,i1,i2,by omega,Rat.neg_divInt_neg x y,hx.neg,hy.neg⟩
 ·have hpos:0<y:=by have:=iy.sg;rw [e] at this;have:¬ y<0:=by simpa using this.symm
                    omega
  exact ⟨_,_,_,_,_,_,_,_,x,y,rfl,B0 h,ix,iy,hpos,rfl,hx,hy⟩
 rintro s1 A1 n1 c1 s2 A2 n2 c2 hp2 ⟨s1',A1',n1',c1',s2',A2',n2',c2',x',y',hl,hle,i1,i2,hpos,hq,hx',hy'⟩
 obtain ⟨rfl,⟨rfl,rfl,rfl⟩,rfl,rfl,rfl,rfl⟩:s1=s1'/\(A1=A1'/\n1=n1'/\c1=c1')/\s2=s2'/\A2=A2'/\n2=n2'/\c2=c2':=by simpa using hl
 refine B00 i1 i2 hx' hy' hm ?_
 intro s3 A3 n3 c3 h3 l3 i3
 refine ⟨_,_,_,_,rfl,?_⟩
 rw [<- hq] at hK
 generalize hqq:B8z x' y'=q at *
 have hnum:q.num=x'/(B94 x' y':Int):=by
  rw [<- hqq,Rat.num_divInt,B8u hpos,Int.one_mul,Int.gcd_comm]
 have hden:(q.den:Int)=y'/(B94 x' y':Int):=by
  rw [<- hqq,Rat.den_divInt,if_neg (by omega),Int.gcd_comm,B9e,B92 (by omega)]
 have hg1:0<B94 x' y':=Int.gcd_pos_of_ne_zero_right x' (by omega)
 have hgm:ZB m (B94 x' y':Int):=by
  refine hy'.le ?_
  rw [B8v]
  exact Nat.le_of_dvd (by omega) (by have:=B9a x' y';exact Int.ofNat_dvd_left.1 this)
 refine ⟨fun l hp=>∃ s A n c s' B n' c',l=[.bool s,.slice A n c,.bool s',.slice B n' c']/\h.le hp/\NI hp s A n c q.num/\NI hp s' B n' c' q.den,?_,?_⟩
 ·refine Xl i3 hgm hm ⟨_,rfl,?_⟩
  rw [B8v]
  refine B4 (fun e=>?_) (fun e=>?_)
  ·refine Ob (i1.mono l3) i3 (by omega) hx' hgm hm ?_
   intro s4 A4 n4 c4 s5 A5 n5 c5 h4 l4 i4 _
   refine ⟨_,_,_,_,_,_,_,_,rfl,?_⟩
   refine Ob ((i2.mono l3).mono l4) (i3.mono l4) (by omega) hy' hgm hm ?_
   intro s6 A6 n6 c6 s7 A7 n7 c7 h5 l5 i6 _
   have e1:x'.tdiv (B94 x' y':Int)=q.num:=by rw [hnum,Int.tdiv_eq_ediv_of_dvd (Int.gcd_dvd_left x' y')]
   have e2:y'.tdiv (B94 x' y':Int)=q.den:=by rw [hden,Int.tdiv_eq_ediv_of_dvd (B9a x' y')]
   rw [e1] at i4
   rw [e2] at i6
   exact ⟨_,_,_,_,_,_,_,_,rfl,_,_,_,_,_,_,_,_,rfl,Heap.le_trans hle (Heap.le_trans l3 (Heap.le_trans l4 l5)),i4.mono l5,i6⟩
  ·have hg:B94 x' y'=1:=by
    have:¬ 1<L0 (B94 x' y'):=by omega
    rw [A0t] at this;omega
   rw [hg] at hnum hden
   simp at hnum hden
   exact ⟨_,_,_,_,_,_,_,_,rfl,Heap.le_trans hle l3,by rw [hnum];exact i1.mono l3,by rw [hden];exact i2.mono l3⟩
 rintro s4 A4 n4 c4 s5 A5 n5 c5 hp7 ⟨s4',A4',n4',c4',s5',A5',n5',c5',hl2,hle2,i4,i5⟩
 obtain ⟨rfl,⟨rfl,rfl,rfl⟩,rfl,rfl,rfl,rfl⟩:s4=s4'/\(A4=A4'/\n4=n4'/\c4=c4')/\s5=s5'/\A5=A5'/\n5=n5'/\c5=c5':=by simpa using hl2
 have hqd:ZB m (q.den:Int):=by
  refine hy'.le ?_
  have:=(Xf (a:=x') (b:=y') (by omega)).2
  rw [hqq] at this
  simpa using this
 refine ⟨fun l hp=>∃ s' B n' c',l=[.bool s',.slice B n' c']/\hp=hp7/\NI hp s' B n' c' (if q.den=1 then 0 else (q.den:Int)),?_,?_⟩
 ·refine Xl i5 hqd hm ⟨_,rfl,?_⟩
  rw [B8v]
  refine D8 (fun e=>?_) (fun e=>?_)
  ·have:q.den=1:=A2b.1 (by omega)
   exact ⟨_,_,_,_,rfl,rfl,by rw [if_pos this];exact NI.nil⟩
  ·have:¬ q.den=1:=fun e1=>e (by rw [e1];rfl)
   exact ⟨_,_,_,_,rfl,rfl,by rw [if_neg this];exact i5⟩
 rintro s6 A6 n6 c6 hp9 ⟨s6',A6',n6',c6',hl3,rfl,i6⟩
 obtain ⟨rfl,rfl,rfl,rfl⟩:s6=s6'/\A6=A6'/\n6=n6'/\c6=c6':=by simpa using hl3
 exact hK ⟨s4,A4,n4,c4,s6,A6,n6,c6⟩ _ hle2 ⟨i4,i6⟩
theorem B55(hz: -9223372036854775808<=z/\z<=9223372036854775807)(hK:∀ w h',h.le h'->NQ h' w (z:Rat)->K w.v h'):FCall prog B7f #[I z] h K:=by
 refine B7l _ ?_
 unfold NR
 refine Wz hz ?_
 intro s A n c h1 l1 i1
 exact ⟨_,_,_,_,rfl,hK ⟨s,A,n,c,false,none,0,0⟩ _ l1 (NQ.whole i1)⟩
end
def dch(d:Nat):UInt8:=UInt8.ofNat (48+d)
theorem Cf{d:Nat}(h:d<10):(dch d).toNat=48+d:=by
 unfold dch;rw [UInt8.toNat_ofNat'];omega
def F9(c:UInt8):Prop:=48<=c.toNat/\c.toNat<=57
instance (c:UInt8):Decidable (F9 c):=by unfold F9;infer_instance
theorem B3t{d:Nat}(h:d<10):F9 (dch d):=by unfold F9;rw [Cf h];omega
theorem B1y{c:UInt8}(h:F9 c):dch (c.toNat-48)=c:=by
 unfold F9 at h
 apply UInt8.toNat_inj.1
 rw [Cf (by omega)];omega
def dd(n:Nat):List UInt8:=if _h:n=0 then [] else dd (n/10)++[dch (n%10)]
theorem I7:dd 0=[]:=by unfold dd;simp
theorem X4{n:Nat}(h:n≠0):dd n=dd (n/10)++[dch (n%10)]:=by rw [dd];simp [h]
def I5(l:List UInt8):Nat:=l.foldl (fun a c=>10*a+(c.toNat-48)) 0
theorem Fd(l:List UInt8)(c:UInt8):I5 (l++[c])=10*I5 l+(c.toNat-48):=by simp [I5]
theorem B3l(l:List UInt8):∀ a,l.foldl (fun a c=>10*a+(c.toNat-48)) a=a*10^l.length+I5 l:=by
 induction l with
 | nil=>intro a;simp [I5]
 | cons c l ih=>
  intro a
  unfold I5
  rw [List.foldl_cons,List.foldl_cons,ih,ih,List.length_cons,B91]
  grind
theorem Do(a b:List UInt8):I5 (a++b)=I5 a*10^b.length+I5 b:=by
 unfold I5;rw [List.foldl_append,B3l b];rfl
theorem A6v(c:UInt8)(l:List UInt8):I5 (c::l)=(c.toNat-48)*10^l.length+I5 l:=by
 rw [<- List.singleton_append,Do];simp [I5]
theorem Dn{l:List UInt8}(h:∀ c∈l,F9 c):I5 l<10^l.length:=by
 induction l with
 | nil=>simp [I5]
 | cons c l ih=>
  have h1:=ih fun x hx=>h x (by simp [hx])
  have h2:=h c (by simp)
  unfold F9 at h2
  rw [A6v,List.length_cons,B91]
  have:(c.toNat-48)*10^l.length<=9*10^l.length:=Nat.mul_le_mul_right _ (by omega)
  omega
theorem B3m(n:Nat):I5 (dd n)=n:=by
 induction n using B9g with
 | _ n ih=>
  by_cases h:n=0
  ·subst h;rw [I7];rfl
  ·rw [X4 h,Fd,ih _ (by omega),Cf (by omega)];omega
theorem B5o(n:Nat):∀ c∈dd n,F9 c:=by
 induction n using B9g with
 | _ n ih=>
  by_cases h:n=0
  ·subst h;rw [I7];simp
  ·rw [X4 h]
   intro c hc
   rcases List.mem_append.1 hc with h1|h1
   ·exact ih _ (by omega) c h1
   ·rw [List.mem_singleton.1 h1];exact B3t (by omega)
theorem B0c{n:Nat}(h:n≠0):dd n≠[]:=by rw [X4 h];simp
theorem A73(n:Nat)(h:n≠0):(dd n).head? ≠ some 48:=by
 induction n using B9g with
 | _ n ih=>
  rw [X4 h]
  by_cases h1:n/10=0
  ·rw [h1,I7]
   simp only [B9i,List.head?_cons,ne_eq,Option.some.injEq]
   intro e
   have:=Cf (d:=n%10) (by omega)
   rw [e] at this
   simp at this
   omega
  ·have:=ih _ (by omega) h1
   obtain ⟨c,r,e⟩:=B9k (B0c h1)
   rw [e] at this ⊢
   simpa using this
theorem A74{l:List UInt8}(h:∀ c∈l,F9 c)(h0:l.head? ≠ some 48):dd (I5 l)=l:=by
 obtain ⟨n,hn⟩:∃ n,l.length=n:=⟨_,rfl⟩
 induction n generalizing l with
 | zero=>rw [B9d hn];exact I7
 | succ n ih=>
  obtain ⟨m,c,rfl⟩:∃ m c,l=m++[c]:=by
   refine ⟨l.dropLast,l.getLast (by rintro rfl;simp at hn),?_⟩
   rw [List.dropLast_concat_getLast]
  have hc:=h c (by simp)
  have hc':=hc
  unfold F9 at hc'
  rw [Fd]
  cases m with
  | nil=>
   simp at h0
   have hne:c.toNat-48≠0:=by
    intro e
    apply h0
    apply UInt8.toNat_inj.1
    show c.toNat=48
    omega
   rw [X4 (by simp [I5];omega)]
   simp only [I5,List.foldl_nil,B9i]
   rw [show (10*0+(c.toNat-48))/10=0 by omega,I7,show (10*0+(c.toNat-48))%10=c.toNat-48 by omega,B1y hc];rfl
  | cons d m=>
   have ih':=ih (l:=d::m) (fun x hx=>h x (by simp at hx ⊢;rcases hx with h|h<;>simp [h])) (by simpa using h0) (by simpa using hn)
   have hpos:I5 (d::m)≠0:=by
    intro e
    rw [e,I7] at ih'
    cases ih'
   rw [X4 (by omega),show (10*I5 (d::m)+(c.toNat-48))/10=I5 (d::m) by omega,ih',show (10*I5 (d::m)+(c.toNat-48))%10=c.toNat-48 by omega,B1y hc]
theorem O0{n k:Nat}:(dd n).length<=k↔n<10^k:=by
 induction k generalizing n with
 | zero=>
  constructor
  ·intro h
   have:dd n=[]:=B9d (by omega)
   by_cases h0:n=0
   ·subst h0;decide
   ·exact absurd this (B0c h0)
  ·intro h
   have:n=0:=by simp at h;exact h
   subst this;rw [I7];simp
 | succ k ih=>
  by_cases h0:n=0
  ·subst h0;rw [I7];simp [B90]
  ·rw [X4 h0,B99,List.length_singleton,Nat.add_le_add_iff_right,ih,B91]
   omega
def pad(w n:Nat):List UInt8:=List.replicate (w-(dd n).length) 48++dd n
theorem A1s(n:Nat):pad 0 n=dd n:=by simp [pad]
theorem Rq{w n:Nat}(h:n<10^w):(pad w n).length=w:=by
 have:=O0.2 h
 simp [pad];omega
theorem Nj(w n:Nat):pad (w+1) n=pad w (n/10)++[dch (n%10)]:=by
 unfold pad
 by_cases h:n=0
 ·subst h
  rw [I7]
  simp only [List.length_nil,Nat.sub_zero,List.append_nil,Nat.zero_mod]
  rw [List.replicate_succ'];rfl
 ·rw [X4 h,B99,List.length_singleton,Nat.add_sub_add_right,B8y]
theorem B5n{h l k:Nat}(h0:h≠0)(hl:l<10^k):dd (h*10^k+l)=dd h++pad k l:=by
 induction k generalizing l with
 | zero=>
  have:l=0:=by simpa using hl
  subst this;simp [pad,I7]
 | succ k ih=>
  have hp:0<10^k:=B90 (by decide)
  have hne:h*10^(k+1)+l≠0:=by
   have:0<h*10^(k+1):=Nat.mul_pos (by omega) (B90 (by decide))
   omega
  have e1:(h*10^(k+1)+l)/10=h*10^k+l/10:=by
   rw [B91,<- Nat.mul_assoc];omega
  have e2:(h*10^(k+1)+l)%10=l%10:=by
   rw [B91,<- Nat.mul_assoc];omega
  rw [X4 hne,e1,e2,ih (by rw [B91] at hl;omega),Nj,B8y]
theorem Wj{w h l k:Nat}(hl:l<10^k)(hw:h≠0\/k<=w):pad w (h*10^k+l)=pad (w-k) h++pad k l:=by
 by_cases h0:h=0
 ·subst h0
  have hk:k<=w:=by
   rcases hw with h|h
   ·exact absurd rfl h
   ·exact h
  have:=O0.2 hl
  unfold pad
  rw [I7]
  simp only [Nat.zero_mul,Nat.zero_add,List.length_nil,Nat.sub_zero,List.append_nil,<- B8y,List.replicate_append_replicate]
  congr 2;omega
 ·have e:=B5n h0 hl
  have hlen:=Rq hl
  unfold pad at hlen
  unfold pad at e ⊢
  rw [e,B99,hlen,<- B8y]
  congr 3;omega
def L3(n:Nat):List UInt8:=if n=0 then [48] else dd n
theorem U3{n:Nat}(h:n≠0):L3 n=dd n:=by simp [L3,h]
theorem U9(n:Nat):I5 (L3 n)=n:=by
 unfold L3;split
 ·rename_i h;subst h;rfl
 ·exact B3m n
theorem Ji(n:Nat):∀ c∈L3 n,F9 c:=by
 unfold L3;split
 ·intro c hc;rw [List.mem_singleton.1 hc];decide
 ·exact B5o n
theorem Pj(n:Nat):L3 n≠[]:=by
 unfold L3;split
 ·simp
 ·rename_i h;exact B0c h
theorem B0b{a b:Nat}(h:L3 a=L3 b):a=b:=by rw [<- U9 a,h,U9]
theorem Jh{l:List UInt8}(h:∀ c∈l,F9 c)(hn:l≠[])(h0:l.head? ≠ some 48\/l=[48]):L3 (I5 l)=l:=by
 rcases h0 with h0|h0
 ·have:=A74 h h0
  rw [U3,this]
  intro e
  rw [e,I7] at this
  exact hn this.symm
 ·subst h0;rfl
theorem No{n k:Nat}(hk:0<k):(L3 n).length<=k↔n<10^k:=by
 by_cases h:n=0
 ·subst h;have:0<10^k:=B90 (by decide);simp [L3];omega
 ·rw [U3 h];exact O0
def Kc(z:Int):List UInt8:=if z<0 then 45::L3 z.natAbs else L3 z.natAbs
def O2(q:Rat):List UInt8:=Kc q.num++(if q.den=1 then [] else 47::L3 q.den)
structure Form (s:List UInt8) (neg:Bool) (a b:List UInt8):Prop where
 eq:s=(if neg then [45] else [])++a++(if b=[] then [] else 47::b)
 da:∀ c∈a,F9 c
 db:∀ c∈b,F9 c
 ne:a≠[]
 ha:a.head? ≠ some 48\/(a=[48]/\neg=false/\b=[])
 hb:b.head? ≠ some 48
 b1:b≠[49]
theorem A1z{c:UInt8}(h:F9 c):c≠45/\c≠47:=by
 unfold F9 at h
 constructor<;>(rintro rfl;revert h;decide)
theorem Ct{a r:List UInt8}(h:∀ c∈a,F9 c)(hr:∀ c,r.head? = some c->¬ F9 c):(a++r).takeWhile (fun c=>decide (F9 c))=a/\(a++r).dropWhile (fun c=>decide (F9 c))=r:=by
 induction a with
 | nil=>
  cases r with
  | nil=>simp
  | cons c r=>
   have:=hr c rfl
   simp [this]
 | cons c a ih=>
  have hc:=h c (by simp)
  have:=ih fun x hx=>h x (by simp [hx])
  simp [hc,this]
theorem Form.head{s:List UInt8}{neg:Bool}{a b:List UInt8}(f:Form s neg a b):neg=(s.head? == some 45):=by
 obtain ⟨c,r,e⟩:=B9k f.ne
 have hc:=(A1z (f.da c (by simp [e]))).1
 rw [f.eq,e]
 cases neg<;>simp [hc]
theorem Form.unique{s:List UInt8}{neg neg':Bool}{a b a' b':List UInt8}(f:Form s neg a b)(g:Form s neg' a' b'):neg=neg'/\a=a'/\b=b':=by
 have hn:neg=neg':=by rw [f.head,g.head]
 subst hn
 have e:=f.eq.symm.trans g.eq
 rw [B8y,B8y] at e
 have e2:=List.append_cancel_left e
 have hr:∀ b:List UInt8,∀ c,(if b=[] then [] else 47::b:List UInt8).head? = some c->¬ F9 c:=by
  intro b c hc
  split at hc
  ·simp at hc
  ·simp at hc;subst hc;decide
 have h1:=Ct f.da (hr b)
 have h2:=Ct g.da (hr b')
 rw [e2] at h1
 have ea:a=a':=h1.1.symm.trans h2.1
 have eb:=h1.2.symm.trans h2.2
 refine ⟨rfl,ea,?_⟩
 by_cases hb:b=[]<;>by_cases hb':b'=[]<;>simp [hb,hb'] at eb ⊢
 exact eb
theorem Pm{q:Rat}(h:q.num=0):q.den=1:=by
 have:=q.reduced
 rw [h] at this
 simpa using this
theorem Ek(q:Rat):Form (O2 q) (decide (q.num<0)) (L3 q.num.natAbs) (if q.den=1 then [] else L3 q.den):=by
 constructor
 ·unfold O2 Kc
  by_cases h1:q.num<0<;>by_cases h2:q.den=1<;>simp [h1,h2,Pj]
 ·exact Ji _
 ·split
  ·simp
  ·exact Ji _
 ·exact Pj _
 ·by_cases h:q.num=0
  ·right
   rw [Pm h,h];simp [L3]
  ·left
   rw [U3 (by omega)];exact A73 _ (by omega)
 ·split
  ·simp
  ·rw [U3 q.den_nz];exact A73 _ q.den_nz
 ·split
  ·simp
  ·rename_i h
   intro e
   have e1:L3 q.den=L3 1:=by rw [e];simp [L3,X4,I7,dch]
   exact h (B0b e1)
def Lv(neg:Bool)(a:List UInt8):Int:=if neg then -(I5 a:Int) else I5 a
def Hs(b:List UInt8):Nat:=if b=[] then 1 else I5 b
theorem Pg{b:List UInt8}(h:∀ c∈b,F9 c)(hn:b≠[])(h0:b.head? ≠ some 48):I5 b≠0:=by
 intro e
 have:=A74 h h0
 rw [e,I7] at this
 exact hn this.symm
theorem Form.den_ne{s:List UInt8}{neg:Bool}{a b:List UInt8}(f:Form s neg a b):Hs b≠0:=by
 unfold Hs;split
 ·decide
 ·rename_i h;exact Pg f.db h f.hb
theorem Form.txt{s:List UInt8}{neg:Bool}{a b:List UInt8}(f:Form s neg a b){q:Rat}(h1:q.num=Lv neg a)(h2:q.den=Hs b):s=O2 q:=by
 have ea:L3 (I5 a)=a:=Jh f.da f.ne (f.ha.imp id fun h=>h.1)
 have habs:(Lv neg a).natAbs=I5 a:=by unfold Lv;split<;>simp
 have hneg:(Lv neg a<0)↔neg=true:=by
  unfold Lv
  cases neg
  ·simp
  ·simp only [if_true]
   constructor
   ·intro _;trivial
   ·intro _
    have:I5 a≠0:=by
     rcases f.ha with h|h
     ·exact Pg f.da f.ne h
     ·exact absurd h.2.1 (by simp)
    omega
 have hd:(Hs b=1)↔b=[]:=by
  unfold Hs
  split
  ·rename_i h;simp [h]
  ·rename_i h
   constructor
   ·intro e
    exfalso
    have h3:=Jh f.db h (Or.inl f.hb)
    rw [e] at h3
    apply f.b1
    rw [<- h3];simp [L3,X4,I7,dch]
   ·intro e;exact absurd e h
 rw [f.eq]
 unfold O2 Kc
 rw [h1,h2,habs,ea]
 by_cases hb:b=[]
 ·rw [if_pos hb,if_pos (hd.2 hb)]
  cases neg
  ·rw [if_neg (fun e=>Bool.noConfusion (hneg.1 e))];simp
  ·rw [if_pos (hneg.2 rfl)];simp
 ·rw [if_neg hb,if_neg (fun e=>hb (hd.1 e))]
  have eb:L3 (Hs b)=b:=by
   unfold Hs;rw [if_neg hb];exact Jh f.db hb (Or.inl f.hb)
  rw [eb]
  cases neg
  ·rw [if_neg (fun e=>Bool.noConfusion (hneg.1 e))];simp
  ·rw [if_pos (hneg.2 rfl)];simp
theorem Form.of_txt{s:List UInt8}{neg:Bool}{a b:List UInt8}(f:Form s neg a b){q:Rat}(e:s=O2 q):q.num=Lv neg a/\q.den=Hs b:=by
 subst e
 obtain ⟨e1,e2,e3⟩:=f.unique (Ek q)
 subst e1 e2 e3
 constructor
 ·unfold Lv
  rw [U9]
  by_cases h:q.num<0
  ·simp [h];omega
  ·simp [h];omega
 ·unfold Hs
  by_cases h:q.den=1
  ·simp [h]
  ·simp [h,Pj,U9]
def IsNum(s:List UInt8):Prop:=∃ q,s=O2 q
theorem Form.isNum{s:List UInt8}{neg:Bool}{a b:List UInt8}(f:Form s neg a b):IsNum s↔Nat.gcd (I5 a) (Hs b)=1:=by
 have habs:(Lv neg a).natAbs=I5 a:=by unfold Lv;split<;>simp
 constructor
 ·rintro ⟨q,e⟩
  have:=f.of_txt e
  have hr:=q.reduced
  rw [this.1,this.2,habs] at hr
  exact hr
 ·intro h
  exact ⟨⟨Lv neg a,Hs b,f.den_ne,by rw [habs];exact h⟩,f.txt rfl rfl⟩
theorem IsNum.form{s:List UInt8}(h:IsNum s):∃ neg a b,Form s neg a b:=by
 obtain ⟨q,rfl⟩:=h
 exact ⟨_,_,_,Ek q⟩
def A9q(s:List UInt8):Rat:=
 let neg:=s.head? == some 45
 let t:=if neg then s.drop 1 else s
 mkRat (Lv neg (t.takeWhile fun c=>decide (F9 c))) (Hs ((t.dropWhile fun c=>decide (F9 c)).drop 1))
def rv(s:List UInt8):Rat:=if O2 (A9q s)=s then A9q s else 0
theorem A1l(q:Rat):rv (O2 q)=q:=by
 have f:=Ek q
 have hn:=f.head
 have hr:∀ b:List UInt8,∀ c,(if b=[] then [] else 47::b:List UInt8).head? = some c->¬ F9 c:=by
  intro b c hc
  split at hc
  ·simp at hc
  ·simp at hc;subst hc;decide
 have e:A9q (O2 q)=q:=by
  unfold A9q
  simp only [<- hn]
  generalize hb:(if q.den=1 then [] else L3 q.den)=b at f
  have ht:(if decide (q.num<0)=true then (O2 q).drop 1 else O2 q)=L3 q.num.natAbs++(if b=[] then [] else 47::b):=by
   rw [f.eq]
   by_cases h0:q.num<0<;>simp [h0]
  rw [ht,(Ct f.da (hr b)).1,(Ct f.da (hr b)).2]
  have h1:=f.of_txt rfl
  have h2:(if b=[] then [] else 47::b:List UInt8).drop 1=b:=by
   by_cases h0:b=[]<;>simp [h0]
  rw [h2,<- h1.1,<- h1.2,Rat.mkRat_self]
 unfold rv
 rw [e,if_pos rfl]
theorem B1e{s:List UInt8}(h:¬ IsNum s):rv s=0:=by
 unfold rv
 rw [if_neg (fun e=>h ⟨_,e.symm⟩)]
theorem Form.rv_num{s:List UInt8}{neg:Bool}{a b:List UInt8}(f:Form s neg a b)(h:IsNum s):(rv s).num=Lv neg a/\(rv s).den=Hs b:=by
 obtain ⟨q,rfl⟩:=h
 rw [A1l];exact f.of_txt rfl
end Go.Proofs.YtajkakhfcokljaaGreatDoor
