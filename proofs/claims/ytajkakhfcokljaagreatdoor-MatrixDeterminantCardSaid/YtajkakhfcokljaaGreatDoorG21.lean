/-
  Texts of this proof, merged by a program of ours.
-/
import Derived.Test.YtajkakhfcokljaaGreatDoorG20
import Derived.Test.YtajkakhfcokljaaGreatDoorG08
import Derived.Test.YtajkakhfcokljaaGreatDoorG10
open Go.Proofs.Tryz
set_option linter.all false
open _root_.Array renaming replicate->B9p
open Bool renaming false_eq_true->C05
open _root_.Go.Builtin renaming zeroCells->B9e,append_->B9o
open _root_.ByteArray renaming size->C07
open Int renaming toNat_natCast->B8g,mul_le_mul_of_nonneg_right->B8m,natCast_mul->B8r,emod_lt_of_pos->B8u,le_of_lt->B8v,mul_le_mul_of_nonneg_left->B8x,pow_succ->B91,mul_ediv_add_emod->B92,mul_comm->B95,ofNat_tdiv->B96,pow_pos->B97,mul_lt_mul_of_pos_right->B9c,emod_nonneg->B9d,ofNat_tmod->B9h,lt_of_le_of_lt->B9l,gcd_natCast_natCast->B9m,eq_ofNat_of_zero_le->B9n,pow_add->B9r,mul_nonneg->B9s,natCast_ediv->B9v,natCast_pow->C01,natCast_emod->C0c,natCast_add->C0h,ediv_lt_of_lt_mul->C0i,tmod->C0j,tdiv->C0k,fdiv->C0r,gcd->C0x,ediv_nonneg->C0y,tmod_eq_emod_of_nonneg->C0z
open List renaming replicate->B8h,length_append->B8i,eq_nil_of_length_eq_zero->B8j,take_of_length_le->B8k,getElem?_cons_zero->B8l,getElem?_cons_succ->B8n,length_take->B8o,append_assoc->B8q,length_replicate->B90,length_drop->B93,take_append_of_le_length->B98,drop_zero->B9g,getElem?_eq_getElem->B9j,drop_of_length_le->B9q,take_append_drop->B9t,getElem?_eq_none->B9u,mem_of_mem_take->B9w,map_append->B9y,length_map->B9z,append_nil->C00,drop_eq_getElem_cons->C06,take_append->C0b,nil_append->C0g,replicate_succ'->C0l,take_replicate->C0n,map_singleton->C0p,getD->C0q,replicate_append_replicate->C0t,take_length->C0u,getElem_mem->C0v,getElem_map->C0w,getLast?_eq_getElem?->C10
open List.cons renaming injEq->B8p
open Nat renaming min_eq_left->B8s,mul_one->B8z,pow_le_pow_right->B94,lt_of_lt_of_le->B99,pow_pos->B9a,le_refl->B9b,sub_zero->B9i,gcd->B9k,div_add_mod->B9x,pow_succ->C02,mul_comm->C03,add_sub_cancel->C04,pow_add->C08,one_mul->C09,add_mul->C0a,zero_add->C0d,le_trans->C0e,div_le_self->C0f,pow_le_pow_left->C0m,mul_assoc->C0o,mod_lt->C11
open Nat.Coprime renaming gcd_mul_left_cancel_right->B9f
open Option.some renaming injEq->C0s
open _root_.Go.Value renaming int->B8y
open _root_.Go.Value.int renaming injEq->B8w
open _root_.Go.Value.slice renaming injEq->B8t
namespace Go.Proofs.YtajkakhfcokljaaGreatDoor
set_option maxRecDepth 20000
open Go
theorem Rz{ys:List Int}{k t s:Nat}(dy:Dig b64 ys)(hk:ys.length=k+1)(ht:ys.getD k 0=(t:Int))(ht0:t≠0)(hs:s=64-O7 t):s<64/\val b64 ys*2^s<b64^(k+1)/\9223372036854775808*b64^k<=val b64 ys*2^s:=by
 have gt:=K5 dy k
 obtain ⟨hyt,hyt2⟩:=Fm (B:=b64) (by decide) dy (m:=k) hk
 rw [ht] at gt hyt hyt2
 obtain ⟨hb1',hb2'⟩:=Eu ht0
 have hb64:O7 t<=64:=Hj (k:=64) (by omega)
 have hbb0:1<=O7 t:=by unfold O7;rw [if_neg ht0];omega
 have hs64:s<64:=by omega
 have hps:0<(2:Int)^s:=B97 (by decide)
 have hsp:=T7 (s:=s) (by omega)
 have hblen:O7 t=64-s:=by omega
 have htl:(t:Int)+1<=2^(64-s):=by
  rw [<- hblen]
  have:((t+1:Nat):Int)<=((2^O7 t:Nat):Int):=by omega
  simpa using this
 have htg:(2:Int)^(63-s)<=t:=by
  have:((2^(O7 t-1):Nat):Int)<=((t:Nat):Int):=by omega
  rw [show O7 t-1=63-s by omega] at this
  simpa using this
 have hp63:(2:Int)^s*2^(63-s)=9223372036854775808:=by
  rw [<- B9r,show s+(63-s)=63 by omega];decide
 have hpm:=D4 (B:=b64) (by decide) k
 refine ⟨hs64,?_,?_⟩
 ·have t2:val b64 ys*2^s<((t:Int)+1)*b64^k*2^s:=B9c hyt hps
  have t3:((t:Int)+1)*b64^k*2^s=((t:Int)+1)*2^s*b64^k:=by grind
  have t4:((t:Int)+1)*2^s*b64^k<=18446744073709551616*b64^k:=by
   apply B8m _ (B8v hpm)
   rw [<- hsp,B95 (2^s)]
   exact B8m htl (B8v hps)
  have t5:b64^(k+1)=18446744073709551616*b64^k:=by rw [B91 b64 k,B95]
  omega
 ·have t1:(t:Int)*b64^k*2^s<=val b64 ys*2^s:=B8m hyt2 (B8v hps)
  have t2:9223372036854775808*b64^k<=(t:Int)*2^s*b64^k:=by
   apply B8m _ (B8v hpm)
   rw [<- hp63,B95 (t:Int)]
   exact B8x htg (by omega)
  have t3:(t:Int)*2^s*b64^k=(t:Int)*b64^k*2^s:=by grind
  omega
section
variable {h g:Heap} {K:VP} {A B:Option Addr} {ac bc:Nat}
set_option maxHeartbeats 1000000 in
theorem A0o{D V a b:Int}{S sh dn dc vc bn bq:Nat}{pieces t46:Int}{DA VA:Option Addr}(hS:B5 ((B5 (C0k (B5 ((B5 (((bn:Nat):Int)+pieces))-(1:Int))) pieces))*pieces)=(S:Int))
 (hsh:C3 (B5 ((B5 ((64:Int)*(B5 ((S:Int)-((bn:Nat):Int)))))+t46))=(sh:Int)) (hS0:0<S) (hS2:S<=200000000) (hsh2:sh<=100000000000) (hb:h bq=none) (hD:Mw h DA dn D) (hdc:dn<=dc) (hdn:0<dn) (hdl:dn<=2000000000) (hV:Mw h VA S V) (hvc:S<=vc) (hVt:9223372036854775808*b64^(S-1)<=V)
 (hDa:D=a*2^sh) (hVb:V=b*2^sh)
 (hK:∀ A1 m1 c1 A2 m2 c2 h',h.le h'->m1<=c1->m2<=c2->Mw h' A1 m1 (a/b)->Mw h' A2 m2 (a%b)->K (.tuple #[.slice A1 m1 c1,.slice A2 m2 c2]) h'):
 V1 prog bn K pieces t46 VA S vc DA dn dc (some ⟨bq,0,none⟩) (dn+S) (dn+S) (blk .u64 B9 h bq (B8h (dn+S) 0)):=by
 have hD0:=hD.nonneg (by decide)
 have hDlt:=hD.lt (by decide)
 have hVlt:=hV.lt (by decide)
 have hV0:0<V:=by have:=D4 (B:=b64) (by decide) (S-1);omega
 have hp:0<(2:Int)^sh:=B97 (by decide)
 have hQ:=D4 (B:=b64) (by decide) S
 unfold V1
 simp only [hS,hsh]
 obtain ⟨nb,hnb⟩:∃ nb,nb=(dn-1)/S:=⟨_,rfl⟩
 have hnb1:nb*S<=dn-1:=by rw [hnb];exact Nat.div_mul_le_self _ _
 have hnb2:dn-1<nb*S+S:=by
  have h1:=B9x (dn-1) S
  have h2:=C11 (dn-1) hS0
  rw [<- hnb,C03] at h1
  omega
 have e1:B5 (B5 (C0k (B5 ((dn:Int)-1)) (S:Int))*(S:Int))=((nb+1:Nat):Int)*S-S:=by
  rw [B8 (n:=(dn:Int)-1) (by omega) (by omega),show (dn:Int)-1=((dn-1:Nat):Int) by omega,<- B96,<- hnb]
  have:nb<=dn-1:=by rw [hnb];exact C0f _ _
  have h3:(nb:Int)*(S:Int)=((nb*S:Nat):Int):=by simp
  rw [B8 (n:=(nb:Int)) (by omega) (by omega),h3,B8 (by omega) (by omega),C0h,Int.add_mul,h3]
  omega
 refine ⟨fun l hp=>∃ (j n c:Nat) (A:Option Addr) (ws:List Int) (r:Int) (g:Heap),l=[.slice A n c,I ((j:Int)*S-S)]/\h.le g/\j*S+ws.length=dn+S/\Dig b64 ws/\Win .u64 hp g bq B9 (some ⟨bq,0,none⟩) [] (B8h (j*S) 0++ws) []/\Mw g A n r/\n<=c/\r=(D/b64^(j*S))%V/\val b64 ws=(D/b64^(j*S))/V,fun l _=>(iAt l 1+S).toNat,⟨nb+1,0,0,none,B8h (dn-1+1-nb*S) 0,0,h,by rw [e1],B4 h,?_,K6 (by decide) _,?_,Mag.zero,B9b _,?_,?_⟩,?_⟩
 ·rw [B90,C0a,C09];omega
 ·rw [C0t,show (nb+1)*S+(dn-1+1-nb*S)=dn+S by rw [C0a,C09];omega]
  exact Win.blk .u64 B9 hb _
 ·have:=D0 (B:=b64) (by decide) (show dn<=(nb+1)*S by rw [C0a,C09];omega)
  rw [Int.ediv_eq_zero_of_lt hD0 (by omega),Int.zero_emod]
 ·have:=D0 (B:=b64) (by decide) (show dn<=(nb+1)*S by rw [C0a,C09];omega)
  rw [Int.ediv_eq_zero_of_lt hD0 (by omega),Int.zero_ediv,Bh]
 rintro A1 n1 c1 st hp5 ⟨j,n,c,A',ws,r,g,hli,lg,hjl,dws,w,Mr,hnc,hr,hws⟩
 simp only [B8p,B8t,B8w,and_true,true_and] at hli
 obtain ⟨⟨rfl,rfl,rfl⟩,rfl⟩:=hli
 refine B7 (fun h1=>?_) (fun h1=>?_)
 ·obtain ⟨i,rfl⟩:∃ i,j=i+1:=⟨j-1,by
   rcases j with _|j
   ·simp at h1;omega
   ·rfl⟩
  obtain ⟨e,he⟩:∃ e,e=i*S:=⟨_,rfl⟩
  have he1:(i+1)*S=e+S:=by rw [he,C0a,C09]
  have hst:((i+1:Nat):Int)*(S:Int)-(S:Int)=(e:Int):=by rw [<- B8r,he1];omega
  rw [he1] at hjl w hr hws
  rw [hst]
  have hQe:=D4 (B:=b64) (by decide) e
  refine w.call (T1 (hD.mono lg) hdc ?_)
  intro A2 n2 c2 k2 k2' M2 h2 w2
  refine ⟨_,_,_,rfl,w2.call (Cp M2 k2 (by omega) ?_)⟩
  intro A3 n3 c3 k3 k3' k3'' M3 h3 w3
  have hr0:=Mr.nonneg (by decide)
  have hrV:r<V:=by rw [hr];exact B8u _ hV0
  have hn1:n1<=S:=Mr.len_le (by decide) (by omega)
  refine ⟨_,_,_,rfl,w3.call (Ee Mr M3 k3' (by omega) ?_)⟩
  intro A4 n4 c4 g4 l4 k4 M4 h4 w4
  have hD2:D/b64^(e+S)=D/b64^e/b64^S:=by rw [B9r,Int.ediv_ediv_of_nonneg (by omega)]
  rw [hD2] at hr hws
  have dm:=B92 (D/b64^e) (b64^S)
  have bl0:=B9d (D/b64^e) (b:=b64^S) (by omega)
  have bl1:=B8u (D/b64^e) hQ
  generalize hD1:D/b64^e=D1 at *
  have hjlt:r*b64^S+D1%b64^S<b64^S*V:=by
   have t1:b64^S*(r+1)<=b64^S*V:=B8x (by omega) (by omega)
   rw [Int.mul_add,B95] at t1
   omega
  have hn4:n4<=S+S:=M4.len_le (by decide) (by
   have t1:b64^S*V<b64^S*b64^S:=Int.mul_lt_mul_of_pos_left hVlt hQ
   rw [B9r];omega)
  have lg4:=B0 lg l4
  refine ⟨_,_,_,rfl,w4.call (B4f S (B9b _) M4 (hV.mono lg4) k4 hvc (by omega) hS2 hS0 hVt hjlt ?_)⟩
  intro A5 n5 c5 A6 n6 c6 g6 l6 k5 k6 M5 M6 h6 w6
  have hn5:n5<=S:=M5.len_le (by decide) (C0i hV0 hjlt)
  refine ⟨_,_,_,_,_,_,rfl,⟨by omega,by omega⟩,?_⟩
  rw [B8g]
  have hzs:B8h (e+S) (0:Int)++ws=B8h e 0++(B8h S 0++ws):=by rw [<- B8q,C0t]
  rw [hzs] at w6
  have hzl:(B8h e (0:Int)++(B8h S 0++ws)).length=dn+S:=by simp only [B8i,B90];omega
  have w7:=w6.sub (l:=e) (m:=dn+S) (c:=dn+S) (by omega) (by omega) (by omega)
  have e7:((B8h e (0:Int)++(B8h S 0++ws)).drop e).take (dn+S-e)=B8h S 0++ws:=by
   rw [List.drop_left' (by simp),B8k (by simp only [B8i,B90];omega)]
  rw [e7] at w7
  obtain ⟨ds,hdsl,sds,dds,nds,hdsv⟩:=M5
  refine Da L0 w7 (by simp only [B8i,B90];omega) (sds.mono w6.le) hdsl (by simp only [B8i,B90];omega) ?_
  intro h8 w8
  rw [List.drop_append_of_le_length (by simp;omega),List.drop_replicate,<- B8q ds] at w8
  have hdl2:(ds++B8h (S-ds.length) (0:Int)).length=S:=by simp;omega
  have w9:=w6.whole (l:=e) (m:=dn+S) (by omega) (by omega) (by rw [B8i,hdl2];omega) w8
  rw [List.take_left' (by simp),B9q (show (B8h e (0:Int)++(B8h S 0++ws)).length<=dn+S by omega),C00] at w9
  have e8:B5 ((e:Int)-(S:Int))=((i:Nat):Int)*S-S:=by
   rw [B8 (by omega) (by omega),he,B8r]
  have dmr:=B92 (r*b64^S+D1%b64^S) V
  have dmr1:=B9d (r*b64^S+D1%b64^S) (b:=V) (by omega)
  have dmr2:=B8u (r*b64^S+D1%b64^S) hV0
  have dm2:=B92 (D1/b64^S) V
  rw [<- hr,<- hws] at dm2
  obtain ⟨f1,f2⟩:=A0j (x:=D1) (a:=(r*b64^S+D1%b64^S)%V) (b:=val b64 ds+b64^S*val b64 ws) (p:=V) (by
   rw [hdsv]
   generalize (r*b64^S+D1%b64^S)%V=r2 at *
   generalize hq2:(r*b64^S+D1%b64^S)/V=q2 at *
   generalize D1%b64^S=bl at *
   generalize D1/b64^S=D2 at *
   generalize b64^S=Q at *
   generalize val b64 ws=W at *
   grind) dmr1 dmr2
  refine ⟨_,rfl,?_⟩
  rw [e8]
  refine ⟨⟨i,_,_,_,(ds++B8h (S-ds.length) 0)++ws,_,g6,rfl,B0 lg4 l6,?_,?_,?_,M6,k6,?_,?_⟩,?_⟩
  ·rw [B8i,hdl2];omega
  ·exact (dds.append (K6 (by decide) _)).append dws
  ·rw [<- he];exact w9
  ·rw [<- he,hD1,f2]
  ·rw [<- he,hD1,f1,E7,hdl2,Ae]
  ·simp only [iAt,B8n,B8l]
   rw [<- B8r,<- he]
   omega
 ·obtain rfl:j=0:=by
   rcases j with _|j
   ·rfl
   ·rw [<- B8r,C0a,C09] at h1
    omega
  rw [Nat.zero_mul,List.replicate_zero,C0g] at w
  rw [Nat.zero_mul,Int.pow_zero,Int.ediv_one] at hr hws
  rw [Nat.zero_mul,C0d] at hjl
  have hb0:0<b:=by
   by_cases hc:0<b
   ·exact hc
   ·have:=B8m (show b<=0 by omega) (B8v hp);omega
  obtain ⟨f1,f2⟩:=A0j (x:=D) (a:=(a%b)*2^sh) (b:=a/b) (p:=V) (by
   have:=B92 a b
   rw [hDa,hVb]
   conv=>rhs;rw [<- this]
   grind) (B9s (B9d _ (by omega)) (by omega)) (by rw [hVb];exact B9c (B8u _ hb0) hp)
  refine W4 w.sl dws hjl.symm hws (by omega) (by omega) ?_
  intro m2 k2 M2
  refine ⟨_,_,_,rfl,?_⟩
  refine De (Mr.mono w.le) (by have:=Mr.len_le (j:=S) (by decide) (by have:=B8u D hV0;omega);omega) (by omega) ?_
  intro A3 n3 c3 h3 l3 k3 M3
  rw [hr,f2,Int.mul_ediv_cancel _ (by omega)] at M3
  rw [f1] at M2
  exact ⟨_,_,_,rfl,hK _ _ _ _ _ _ _ (B0 lg (B0 w.le l3)) k2 k3 (M2.mono l3) M3⟩
set_option maxHeartbeats 1000000 in
theorem Ko{x y:Int}{an bn:Nat}(ma:Mw h A an x)(mb:Mw h B bn y)(ha:an<=ac)(hbc:bn<=bc)(hl:an<=800000000)(hl2:bn<=100000000)(ha0:0<an)(hb0:0<bn)
 (hK:∀ A1 m1 c1 A2 m2 c2 h',h.le h'->m1<=c1->m2<=c2->Mw h' A1 m1 (x/y)->Mw h' A2 m2 (x%y)->K (.tuple #[.slice A1 m1 c1,.slice A2 m2 c2]) h'):FCall prog Z1 #[.slice A an ac,.slice B bn bc] h K:=by
 have hx0:=ma.nonneg (by decide)
 have hxz:=ma.len_zero (by decide)
 have hxlt:=ma.lt (by decide)
 refine Ml _ _ _ _ _ _ ?_
 unfold Ji Fa
 refine ⟨fun l hp=>hp=h/\∃ p:Nat,l=[I p]/\0<p/\p<=bn,fun l _=>bn-(iAt l 0).toNat,⟨rfl,1,rfl,by omega,by omega⟩,?_⟩
 rintro pieces hp ⟨rfl,p,hli,hp0,hpb⟩
 obtain rfl:=sI1 hli
 have e1:B5 (C0k (B5 (B5 ((bn:Int)+(p:Int))-1)) (p:Int))=(((bn+p-1)/p:Nat):Int):=by
  rw [B8 (n:=(bn:Int)+p) (by omega) (by omega),B8 (n:=(bn:Int)+p-1) (by omega) (by omega),show (bn:Int)+p-1=((bn+p-1:Nat):Int) by omega,<- B96]
  have:(bn+p-1)/p<=bn+p-1:=C0f _ _
  generalize (bn+p-1)/p=q at *
  rw [B8 (by omega) (by omega)]
 refine B7 (fun h1=>by omega) (fun _=>?_)
 obtain ⟨S,hS⟩:∃ S,S=(bn+p-1)/p*p:=⟨_,rfl⟩
 have hS1:bn<=S/\S<=bn+p-1:=by
  have h1:=B9x (bn+p-1) p
  have h2:=C11 (bn+p-1) hp0
  rw [C03,<- hS] at h1
  omega
 have e2:B5 ((B5 (C0k (B5 (B5 ((bn:Int)+(p:Int))-1)) (p:Int)))*(p:Int))=(S:Int):=by
  rw [e1,<- B8r,<- hS,B8 (by omega) (by omega)]
 refine B7 (fun h1=>?_) (fun h1=>?_)
 ·rw [e1] at h1
  have h2:80<=(bn+p-1)/p:=by omega
  rw [Nat.le_div_iff_mul_le hp0] at h2
  have e3:B5 ((p:Int)*2)=((p*2:Nat):Int):=by rw [B8 (by omega) (by omega)];omega
  rw [e3]
  exact ⟨⟨rfl,_,rfl,by omega,by omega⟩,by simp only [iAt,B8l];omega⟩
 ·refine B7 (fun h1=>by omega) (fun _=>?_)
  obtain ⟨k,hk⟩:∃ k,bn=k+1:=⟨bn-1,by omega⟩
  have mb':=mb
  obtain ⟨ys,hys,sy,dy,ny,rfl⟩:=mb
  have hys':ys.length=k+1:=by omega
  have gt:=K5 dy k
  have ht0:=A4f hys' ny
  have e3:B5 ((bn:Int)-1)=(k:Int):=by rw [B8 (by omega) (by omega)];omega
  rw [e3]
  subst hys
  refine sy.load rfl (by omega) (by omega) ?_
  rw [B8g]
  obtain ⟨t,ht⟩:∃ t:Nat,ys.getD k 0=t:=⟨(ys.getD k 0).toNat,by omega⟩
  rw [ht] at gt ht0 ⊢
  refine N9 (by omega) ⟨_,rfl,?_⟩
  obtain ⟨s,hs⟩:∃ s,s=64-O7 t:=⟨_,rfl⟩
  rw [<- hs]
  obtain ⟨hs64,hY1,hY2⟩:=Rz dy hys' ht (by omega) hs
  simp only [e2]
  obtain ⟨sh,hsh⟩:∃ sh,sh=64*(S-ys.length)+s:=⟨_,rfl⟩
  have e4:C3 (B5 (B5 (64*B5 ((S:Int)-(ys.length:Int)))+(s:Int)))=(sh:Int):=by
   rw [B8 (n:=(S:Int)-(ys.length:Int)) (by omega) (by omega),B8 (n:=64*((S:Int)-(ys.length:Int))) (by omega) (by omega),B8 (by omega) (by omega),C4 (by omega) (by omega)]
   omega
  simp only [e4]
  have hpow:(2:Int)^sh=2^s*b64^(S-ys.length):=by rw [hsh,B9r,Gq,B95]
  have hpS:=D4 (B:=b64) (by decide) (S-ys.length)
  have hps:0<(2:Int)^s:=B97 (by decide)
  have hpsh:0<(2:Int)^sh:=B97 (by decide)
  have hVe:val b64 ys*2^sh=val b64 ys*2^s*b64^(S-ys.length):=by rw [hpow,Int.mul_assoc]
  have hV1:val b64 ys*2^sh<b64^S:=by
   have t1:val b64 ys*2^s*b64^(S-ys.length)<b64^(k+1)*b64^(S-ys.length):=B9c hY1 hpS
   rw [<- B9r,show k+1+(S-ys.length)=S by omega] at t1
   omega
  have hV2:9223372036854775808*b64^(S-1)<=val b64 ys*2^sh:=by
   have t1:9223372036854775808*b64^k*b64^(S-ys.length)<=val b64 ys*2^s*b64^(S-ys.length):=B8m hY2 (B8v hpS)
   rw [Int.mul_assoc,<- B9r,show k+(S-ys.length)=S-1 by omega] at t1
   omega
  refine P9 mb' hbc (by omega) (by omega) ?_
  intro A1 n1 c1 h1 l1 k1 M1
  refine ⟨_,_,_,rfl,?_⟩
  have hn1:n1=S:=by
   have q1:=M1.len_le (by decide) hV1
   have q2:=M1.lt (by decide)
   by_cases hc:n1=S
   ·exact hc
   ·have:=D0 (B:=b64) (by decide) (show n1<=S-1 by omega)
    have:=D4 (B:=b64) (by decide) (S-1)
    omega
  subst hn1
  refine P9 (ma.mono l1) ha (by omega) (by omega) ?_
  intro A2 n2 c2 h2 l2 k2 M2
  refine ⟨_,_,_,rfl,?_⟩
  have hn2:n2<=an+(1+(n1-ys.length)):=M2.len_le (by decide) (by
   have t1:x*2^sh<b64^an*2^sh:=B9c hxlt hpsh
   have t2:(2:Int)^sh<=b64^(1+(n1-ys.length)):=by
    rw [hpow,B9r]
    apply B8m _ (B8v hpS)
    have:=D0 (B:=2) (by decide) (show s<=64 by omega)
    have e:(2:Int)^64=18446744073709551616:=by decide
    show (2:Int)^s<=b64^1
    rw [B91,Int.pow_zero]
    show (2:Int)^s<=1*18446744073709551616
    omega
   have t3:b64^an*2^sh<=b64^an*b64^(1+(n1-ys.length)):=B8x t2 (B8v (D4 (by decide) an))
   rw [B9r b64 an]
   omega)
  have hn2':0<n2:=by
   rcases Nat.eq_zero_or_pos n2 with h0|h0
   ·have:=(M2.len_zero (by decide)).2 h0
    rcases Int.mul_eq_zero.1 this with h3|h3<;>omega
   ·exact h0
  have e5:B5 ((n2:Int)+(n1:Int))=((n2+n1:Nat):Int):=by rw [B8 (by omega) (by omega)];omega
  rw [e5]
  refine O3 L0 (by omega) (by omega) (by omega) ?_
  intro bq hbq
  rw [B8g]
  refine ⟨_,_,_,rfl,?_⟩
  refine B7 (fun h1=>by omega) (fun _=>?_)
  refine A0o (D:=x*2^sh) (V:=val b64 ys*2^sh) (sh:=sh) (S:=n1) e2 e4 (by omega) (by omega) (by omega) hbq M2 k2 hn2' (by omega) (M1.mono l2) k1 hV2 rfl rfl ?_
  intro A3 n3 c3 A4 n4 c4 h4 l4 k3 k4 M3 M4
  exact hK _ _ _ _ _ _ _ (B0 l1 (B0 l2 l4)) k3 k4 M3 M4
theorem P4{x y:Int}{an bn:Nat}(ma:Mw h A an x)(mb:Mw h B bn y)(ha:an<=ac)(hbc:bn<=bc)(hy:y≠0)(hl:an<=800000000)(hl2:bn<=100000000)
 (hK:∀ A1 m1 c1 A2 m2 c2 h',h.le h'->m1<=c1->m2<=c2->Mw h' A1 m1 (x/y)->Mw h' A2 m2 (x%y)->K (.tuple #[.slice A1 m1 c1,.slice A2 m2 c2]) h'):FCall prog L5 #[.slice A an ac,.slice B bn bc] h K:=by
 refine Pu _ _ _ _ _ _ ?_
 unfold Lq
 have simple:FCall prog G8 #[.slice A an ac,.slice B bn bc] h (fun r hp=>∃ (t22aA:Option Addr) (t22an:Nat) (t22ac:Nat) (t22bA:Option Addr) (t22bn:Nat) (t22bc:Nat),r= .tuple #[.slice t22aA t22an t22ac,.slice t22bA t22bn t22bc]/\K (.tuple #[.slice t22aA t22an t22ac,.slice t22bA t22bn t22bc]) hp):=by
  refine Bs ma mb ha hbc hy (by omega) (by omega) ?_
  intro A1 m1 c1 A2 m2 c2 h' l k1 k2 M1 M2
  exact ⟨_,_,_,_,_,_,rfl,hK _ _ _ _ _ _ _ l k1 k2 M1 M2⟩
 refine B7 (fun h1=>B7 (fun h2=>?_) (fun _=>simple)) (fun _=>simple)
 rw [B8 (by omega) (by omega)] at h2
 refine Ko ma mb ha hbc hl hl2 (by omega) (by omega) ?_
 intro A1 m1 c1 A2 m2 c2 h' l k1 k2 M1 M2
 exact ⟨_,_,_,_,_,_,rfl,hK _ _ _ _ _ _ _ l k1 k2 M1 M2⟩
end
def TZ(x k:Nat):Prop:=∃ m,x=2^k*(2*m+1)
theorem TZ.ex:∀ {x:Nat},x≠0->∃ k,TZ x k:=by
 intro x
 induction x using Nat.strongRecOn with
 | _ x ih=>
  intro h
  rcases Nat.mod_two_eq_zero_or_one x with h0|h0
  ·obtain ⟨k,m,hm⟩:=ih (x/2) (by omega) (by omega)
   refine ⟨k+1,m,?_⟩
   rw [C02,C03 (2^k),C0o,<- hm];omega
  ·exact ⟨0,x/2,by omega⟩
theorem TZ.lt{x k n:Nat}(h:TZ x k)(hx:x<2^n):k<n:=by
 obtain ⟨m,rfl⟩:=h
 have h1:2^k*1<=2^k*(2*m+1):=Nat.mul_le_mul_left _ (by omega)
 exact (Nat.pow_lt_pow_iff_right (a:=2) (by decide)).1 (by omega)
theorem A58{a u v:Nat}:(2^a*u) ||| (2^a*v)=2^a*(u ||| v):=by
 apply Nat.eq_of_testBit_eq
 intro i
 simp only [Nat.testBit_or,Nat.testBit_two_pow_mul,Bool.and_or_distrib_left]
theorem B0f{u v:Nat}(h:u%2=1\/v%2=1):(u ||| v)%2=1:=by simpa using h
theorem TZ.or'{x y a b:Nat}(hx:TZ x a)(hy:TZ y b)(hab:a<=b):TZ (x ||| y) a/\TZ (y ||| x) a:=by
 obtain ⟨m,rfl⟩:=hx
 obtain ⟨n,rfl⟩:=hy
 obtain ⟨d,rfl⟩:∃ d,b=a+d:=⟨b-a,by omega⟩
 rw [C08,C0o,A58,A58]
 have h1:=B0f (u:=2*m+1) (v:=2^d*(2*n+1)) (.inl (by omega))
 have h2:=B0f (u:=2^d*(2*n+1)) (v:=2*m+1) (.inr (by omega))
 exact ⟨⟨_/2,by rw [<- B9x (_ ||| _) 2,h1]⟩,⟨_/2,by rw [<- B9x (_ ||| _) 2,h2]⟩⟩
theorem TZ.or{x y a b:Nat}(hx:TZ x a)(hy:TZ y b):TZ (x ||| y) (min a b):=by
 by_cases h:a<=b
 ·rw [B8s h];exact (hx.or' hy h).1
 ·rw [Nat.min_eq_right (by omega)];exact (hy.or' hx (by omega)).2
theorem TZ.bit{x k:Nat}(h:TZ x k)(hx:x<2^64):x &&& (2^64-x)=2^k:=by
 obtain ⟨m,rfl⟩:=h
 have hp:0<2^k:=B9a (by decide)
 have e1:2^k*(2*m+1)=2^k*(2*m)+(2^k-1)+1:=by rw [Nat.mul_add,B8z];omega
 apply Nat.eq_of_testBit_eq
 intro i
 rw [Nat.testBit_and]
 have e2:(2^64-2^k*(2*m+1)).testBit i=(decide (i<64) && !(2^k*(2*m)+(2^k-1)).testBit i):=by
  rw [e1];exact Nat.testBit_two_pow_sub_succ (by omega) i
 rw [e2,Nat.testBit_two_pow_mul_add _ (by omega),Nat.testBit_two_pow_mul,Nat.testBit_two_pow]
 by_cases h1:i<k
 ·simp [h1,show ¬ i>=k by omega,show ¬ k=i by omega]
 ·by_cases h2:i=k
  ·subst h2
   have h64:i<64:=TZ.lt ⟨m,rfl⟩ hx
   simp [h64,Nat.testBit_zero]
  ·obtain ⟨d,hd⟩:∃ d,i-k=d+1:=⟨i-k-1,by omega⟩
   rw [if_neg h1,hd,Nat.testBit_succ,Nat.testBit_succ,show (2*m+1)/2=m by omega,show 2*m/2=m by omega]
   simp only [show ¬ k=i by omega,decide_false]
   cases m.testBit d<;>simp
theorem Th{o k:Nat}(h:o%2=1):Nat.Coprime (2^k) o:=Nat.Coprime.pow_left k (by unfold Nat.Coprime;rw [Nat.gcd_rec,h];rfl)
theorem B2j{x y a b m:Nat}(hx:x=2^a*(2*m+1))(hy:TZ y b):B9k x y=2^(min a b)*B9k (2*m+1) y:=by
 obtain ⟨n,rfl⟩:=hy
 subst hx
 have e0:B9k (2*m+1) (2^b*(2*n+1))=B9k (2*m+1) (2*n+1):=B9f (2*n+1) (Th (by omega))
 rw [e0]
 by_cases h:a<=b
 ·obtain ⟨d,rfl⟩:∃ d,b=a+d:=⟨b-a,by omega⟩
  rw [B8s h,C08,C0o,Nat.gcd_mul_left,B9f _ (Th (by omega))]
 ·obtain ⟨d,rfl⟩:∃ d,a=b+d:=⟨a-b,by omega⟩
  rw [Nat.min_eq_right (by omega),C08,C0o,Nat.gcd_mul_left,Nat.Coprime.gcd_mul_left_cancel _ (Th (by omega))]
def Wf(k:Nat):Nat:=(2^k*285870213051353865%18446744073709551616)/2^58
def Gtz(h:Heap):Prop:=∀ k,k<64->h.cell? (Addr.add ⟨3,0,none⟩ (Wf k*1))=some (Y k)
theorem Gtz.mono{h h':Heap}(g:Gtz h)(l:h.le h'):Gtz h':=fun k hk=>C0 l (g k hk)
section
variable {h g:Heap} {K:VP} {A B:Option Addr} {ac bc:Nat}
theorem Gm{x k:Nat}(gl:Gtz h)(tz:TZ x k)(hx:x<18446744073709551616)(hK:K (I k) h):FCall prog J5 #[U x] h K:=by
 have hk:=tz.lt (n:=64) hx
 have hx0:x≠0:=by
  obtain ⟨m,rfl⟩:=tz
  have:0<2^k:=B9a (by decide)
  have:=Nat.mul_pos this (show 0<2*m+1 by omega)
  omega
 refine Hm _ ?_
 unfold Dl
 refine D9 (fun e=>by omega) (fun _=>?_)
 have e1:C3 (0-(x:Int))=((2^64-x:Nat):Int):=by
  rw [F1];omega
 have e2:Qo .u64 (x:Int) ((2^64-x:Nat):Int)=((2^k:Nat):Int):=by
  rw [A6v (by omega) (by omega),B8g,B8g,tz.bit hx]
 have e3:C0r (C3 (((2^k:Nat):Int)*285870213051353865)) (2^(min ((58:Int)).toNat 64))=((Wf k:Nat):Int):=by
  show C0r _ (2^(min 58 64))=_
  rw [A8w (by decide),F1]
  unfold Wf
  rw [B9v,C0c,B8r]
  rfl
 rw [e1,e2,e3,B8g]
 have hi:Wf k<64:=by
  unfold Wf
  have:(2^k*285870213051353865)%18446744073709551616<18446744073709551616:=C11 _ (by decide)
  exact Nat.div_lt_of_lt_mul (by omega)
 refine ⟨⟨by omega,by omega⟩,_,gl k hk,?_⟩
 rw [B8 (by omega) (by omega)]
 exact hK
theorem Xn{x y:Nat}(gl:Gtz h)(hx:x<18446744073709551616)(hy:y<18446744073709551616)(hK:K (U (B9k x y:Nat)) h):FCall prog Ke #[U x,U y] h K:=by
 refine A0u _ _ ?_
 unfold A24
 refine D9 (fun e=>?_) (fun e=>?_)
 ·obtain rfl:x=0:=by omega
  rw [A37 (by omega) (by omega)]
  simpa using hK
 refine D9 (fun e'=>?_) (fun e'=>?_)
 ·obtain rfl:y=0:=by omega
  rw [A37 (by omega) (by omega)]
  simpa using hK
 obtain ⟨a,ta⟩:=TZ.ex (x:=x) (by omega)
 obtain ⟨b,tb⟩:=TZ.ex (x:=y) (by omega)
 have ha:=ta.lt (n:=64) hx
 have hb:=tb.lt (n:=64) hy
 rw [A37 (by omega) (by omega),B8g,B8g]
 have hxy:x ||| y<18446744073709551616:=Nat.or_lt_two_pow (n:=64) hx hy
 refine Gm gl (ta.or tb) hxy ⟨_,rfl,?_⟩
 refine Gm gl ta hx ⟨_,rfl,?_⟩
 refine B7 (fun h1=>by omega) (fun _=>?_)
 obtain ⟨m,hm⟩:=ta
 have hg:=B2j hm tb
 have e1:C0r (x:Int) (2^(min ((a:Int)).toNat 64))=((2*m+1:Nat):Int):=by
  rw [B8g,A8w (by omega),show ((2:Int)^a)=((2^a:Nat):Int) by simp,<- B9v,hm,Nat.mul_div_cancel_left _ (B9a (by decide))]
 rw [e1]
 have hm64:2*m+1<=x:=by
  rw [hm];exact Nat.le_mul_of_pos_left _ (B9a (by decide))
 refine ⟨fun l hp=>hp=h/\∃ u v:Nat,l=[U u,U v]/\u%2=1/\u<18446744073709551616/\v<18446744073709551616/\B9k u v=B9k (2*m+1) y,fun l _=>(iAt l 0+iAt l 1).toNat,⟨rfl,2*m+1,y,rfl,by omega,by omega,hy,rfl⟩,?_⟩
 rintro x1 y1 hp2 ⟨rfl,u,v,hl,hu,hu2,hv2,huv⟩
 simp only [B8p,B8w,and_true,true_and] at hl
 obtain ⟨rfl,rfl⟩:=hl
 refine H9 (fun h1=>?_) (fun h1=>?_)
 ·obtain ⟨c,tc⟩:=TZ.ex (x:=v) (by omega)
  have hc:=tc.lt (n:=64) hv2
  refine Gm gl tc hv2 ⟨_,rfl,?_⟩
  refine B7 (fun h1=>by omega) (fun _=>?_)
  obtain ⟨n,hn⟩:=tc
  have e2:C0r (v:Int) (2^(min ((c:Int)).toNat 64))=((2*n+1:Nat):Int):=by
   rw [B8g,A8w (by omega),show ((2:Int)^c)=((2^c:Nat):Int) by simp,<- B9v,hn,Nat.mul_div_cancel_left _ (B9a (by decide))]
  have hn64:2*n+1<=v:=by
   rw [hn];exact Nat.le_mul_of_pos_left _ (B9a (by decide))
  have hg2:B9k u (2*n+1)=B9k u v:=by
   rw [hn,B9f _ (Th hu)]
  rw [e2]
  refine B7 (fun h2=>?_) (fun h2=>?_)
  ·have e3:C3 ((u:Int)-((2*n+1:Nat):Int))=((u-(2*n+1):Nat):Int):=by rw [C4 (by omega) (by omega)];omega
   rw [e3]
   refine ⟨⟨rfl,_,_,rfl,by omega,by omega,by omega,?_⟩,?_⟩
   ·rw [Nat.gcd_sub_self_right (by omega),Nat.gcd_comm,hg2,huv]
   ·simp only [iAt,B8l,B8n];omega
  ·have e3:C3 (((2*n+1:Nat):Int)-(u:Int))=((2*n+1-u:Nat):Int):=by rw [C4 (by omega) (by omega)];omega
   rw [e3]
   refine ⟨⟨rfl,_,_,rfl,by omega,by omega,by omega,?_⟩,?_⟩
   ·rw [Nat.gcd_sub_self_right (by omega),hg2,huv]
   ·simp only [iAt,B8l,B8n];omega
 ·refine B7 (fun h1=>by omega) (fun _=>?_)
  obtain rfl:v=0:=by omega
  rw [Nat.gcd_zero_right] at huv
  rw [B8g,B8s (show min a b<=64 by omega)]
  have e4:(u:Int)*2^(min a b)=((B9k x y:Nat):Int):=by
   rw [hg,<- huv,B8r,B95];simp
  have hle:B9k x y<=x:=Nat.le_of_dvd (by omega) (Nat.gcd_dvd_left x y)
  rw [e4,C4 (by omega) (by omega)]
  exact hK
end
theorem A4g{xs:List Int}(d:Dig b64 xs){k s:Nat}(hl:xs.length<=k+2)(hs:s<=64):val b64 xs/(b64^k*2^(64-s))=xs.getD (k+1) 0*2^s+xs.getD k 0/2^(64-s):=by
 have h1:=C7 b64 xs (k+1)
 have h2:=C7 b64 xs k
 rw [B8k (show xs.length<=k+1+1 by omega)] at h1
 have hp:=D4 (B:=b64) (by decide) k
 have hpp:0<(2:Int)^(64-s):=B97 (by decide)
 have hsp:=T7 (s:=s) hs
 have h3:=C5 (by decide) (d.take k)
 have h4:=M0 (by decide) (d.take k)
 have h5:=D0 (B:=b64) (by decide) (show (xs.take k).length<=k by rw [B8o];omega)
 rw [<- Int.ediv_ediv_of_nonneg (B8v hp)]
 have e1:val b64 xs/b64^k=xs.getD k 0+18446744073709551616*xs.getD (k+1) 0:=by
  refine (A0j (a:=val b64 (xs.take k)) ?_ h3 (by omega)).1
  rw [h1,h2,B91]
  show _=val b64 (xs.take k)+_+b64^k*18446744073709551616*_
  grind
 rw [e1,<- hsp,B95 (2^s),Int.mul_assoc,Int.add_mul_ediv_left _ _ (by omega),B95 (2^s)]
 omega
section
variable {h g:Heap} {K:VP} {A B:Option Addr} {ac bc:Nat}
def B3b(a b u0 u1 v0 v1:Int)(odd:Bool):Prop:=(0<=u0/\u0<18446744073709551616)/\(0<=u1/\u1<18446744073709551616)/\(0<=v0/\v0<18446744073709551616)/\(0<=v1/\v1<18446744073709551616)/\(v0≠0->Leh a b u0 v0 u1 v1 (Gt a b u0 v0 odd) (Gs a b u1 v1 odd))
theorem A8v{a b F S W t20 t26 t33:Int}(hF:F=bor .u64 (C3 (t26*2^(min (C3 t20).toNat 64))) (C0r t33 (2^(min (C3 ((64:Int)-(C3 t20))).toNat 64))))(hW:0<W)(hFa:F=a/W)(hSb:S=b/W)(hb0:0<=b)(hba:b<=a)(hF64:F<18446744073709551616)
 (hK:∀ u0 u1 v0 v1 odd,B3b a b u0 u1 v0 v1 odd->K (.agg #[U u0,U u1,U v0,U v1,.bool odd]) h):Ez prog K t20 t26 t33 S h:=by
 have da:=B92 a W
 have db:=B92 b W
 have da1:=B9d a (b:=W) (by omega)
 have da2:=B8u a hW
 have db1:=B9d b (b:=W) (by omega)
 have db2:=B8u b hW
 have hS0:0<=S:=by rw [hSb];exact C0y hb0 (by omega)
 have hSF:S<=F:=by rw [hSb,hFa];exact Int.ediv_le_ediv hW hba
 unfold Ez
 rw [<- hF]
 refine ⟨fun l hp=>hp=h/\∃ (first second u2 v2 u0 u1 v0 v1:Int) (odd:Bool),l=[U first,U second,U u2,U v2,U u0,U u1,U v0,U v1,.bool odd]/\LS F S first second u0 v0 u1 v1 u2 v2 odd/\B3b a b u0 u1 v0 v1 odd/\u2<=F/\v2<=(if F=0 then 1 else F),fun l _=>(iAt l 1).toNat,⟨rfl,_,_,_,_,_,_,_,_,_,rfl,LS.init hS0 hSF,⟨by omega,by omega,by omega,by omega,fun e=>absurd rfl e⟩,by omega,by split<;>omega⟩,?_⟩
 rintro first second u2 v2 u0 u1 v0 v1 odd hp ⟨rfl,first',second',u2',v2',u0',u1',v0',v1',odd',hl,ls,st,hu2,hv2⟩
 simp only [B8p,B8w,Value.bool.injEq,and_true,true_and] at hl
 obtain ⟨rfl,rfl,rfl,rfl,rfl,rfl,rfl,rfl,rfl⟩:=hl
 have hpos:=ls.v2pos
 have hord:=ls.ord
 have hFe:=ls.hF
 refine B7 (fun h1=>?_) (fun _=>hK _ _ _ _ _ st)
 have hs1:1<=second:=by omega
 have hb2:=ls.bound2 hs1
 have hfF:first<=F:=by
  have t1:1*first<=v2*first:=B8m (by omega) (by omega)
  have t2:=B9s (show 0<=v1 by omega) hord.1
  omega
 rw [C4 (n:=first-second) (by omega) (by omega),C4 (n:=v1+v2) (by omega) (by omega)]
 refine B7 (fun h2=>?_) (fun _=>hK _ _ _ _ _ st)
 refine B7 (fun e=>by omega) (fun _=>?_)
 refine B7 (fun e=>by omega) (fun _=>?_)
 rw [C0z (by omega),Int.tdiv_eq_ediv_of_nonneg (by omega)]
 have ls2:=ls.step (by omega) (by omega)
 have hb3:=ls2.bound hs1
 have hq0:0<=first/second:=C0y (by omega) (by omega)
 have hq1:first/second<=first:=Int.ediv_le_self _ (by omega)
 have hqu:=B9s hq0 (show 0<=u2 by omega)
 have hqv:=B9s hq0 (show 0<=v2 by omega)
 rw [C4 (n:=first/second) (by omega) (by omega),C4 (n:=first/second*u2) (by omega) (by omega),C4 (n:=first/second*v2) (by omega) (by omega),C4 (n:=u1+first/second*u2) (by omega) (by omega),C4 (n:=v1+first/second*v2) (by omega) (by omega)]
 refine ⟨⟨rfl,_,_,_,_,_,_,_,_,_,rfl,ls2,⟨⟨by omega,st.2.1.2⟩,⟨by omega,by omega⟩,⟨by omega,st.2.2.2.1.2⟩,⟨by omega,by omega⟩,fun e=>ls2.leh e hW (al:=a%W) (bl:=b%W) ?_ ?_ ⟨da1,da2⟩ ⟨db1,db2⟩⟩,by omega,by split<;>omega⟩,?_⟩
 ·rw [hFa,B95];omega
 ·rw [hSb,B95];omega
 ·have:=B8u first (show 0<second by omega)
  have:=B9d first (show second≠0 by omega)
  simp only [iAt,B8n,B8l];omega
set_option maxHeartbeats 1000000 in
theorem To{a b:Int}{an bn:Nat}(ma:Mw h A an a)(mb:Mw h B bn b)(hba:b<=a)(hb2:2<=bn)(hl:an<=1000000000)
 (hK:∀ u0 u1 v0 v1 odd,B3b a b u0 u1 v0 v1 odd->K (.agg #[U u0,U u1,U v0,U v1,.bool odd]) h):FCall prog Ha #[.slice A an ac,.slice B bn bc] h K:=by
 have hb0:=mb.nonneg (by decide)
 have hbn:bn<=an:=mb.len_le (by decide) (B9l hba (ma.lt (by decide)))
 obtain ⟨k,rfl⟩:∃ k,an=k+2:=⟨an-2,by omega⟩
 obtain ⟨xs,hxl,sx,dx,nx,rfl⟩:=ma
 obtain ⟨ys,hyl,sy,dy,ny,rfl⟩:=mb
 refine Yc _ _ _ _ _ _ ?_
 unfold Yd
 have e1:B5 (((k+2:Nat):Int)-1)=((k+1:Nat):Int):=by rw [B8 (by omega) (by omega)];omega
 have e2:B5 (((k+2:Nat):Int)-2)=(k:Int):=by rw [B8 (by omega) (by omega)];omega
 simp only [e1,e2]
 have gt:=K5 dx (k+1)
 have gt2:=K5 dx k
 have ht0:=A4f (m:=k+1) hxl.symm nx
 obtain ⟨t,ht⟩:∃ t:Nat,xs.getD (k+1) 0=t:=⟨(xs.getD (k+1) 0).toNat,by omega⟩
 rw [hxl]
 refine sx.load rfl (by omega) (by omega) ?_
 rw [B8g,ht]
 rw [ht] at gt ht0
 refine N9 (by omega) ⟨_,rfl,?_⟩
 obtain ⟨s,hs⟩:∃ s,s=64-O7 t:=⟨_,rfl⟩
 rw [<- hs]
 obtain ⟨hs64,hY1,hY2⟩:=Rz dx hxl.symm ht (by omega) hs
 refine sx.load rfl (by omega) (by omega) ?_
 simp only [B8g,ht]
 have es:C3 (s:Int)=s:=C4 (by omega) (by omega)
 have es2:C3 (64-(s:Int))=((64-s:Nat):Int):=by rw [C4 (by omega) (by omega)];omega
 refine B7 (fun e=>by rw [es] at e;omega) (fun _=>?_)
 refine sx.load rfl (by omega) (by omega) ?_
 simp only [B8g]
 refine B7 (fun e=>by rw [es,es2] at e;omega) (fun _=>?_)
 have hps:0<(2:Int)^s:=B97 (by decide)
 have hpp:0<(2:Int)^(64-s):=B97 (by decide)
 have hsp:=T7 (s:=s) (by omega)
 have hpk:=D4 (B:=b64) (by decide) k
 have hW:0<b64^k*2^(64-s):=Int.mul_pos hpk hpp
 have hFa:=A4g dx (k:=k) (s:=s) (by omega) (by omega)
 have hSb:=A4g dy (k:=k) (s:=s) (by omega) (by omega)
 have hFlt:val b64 xs/(b64^k*2^(64-s))<18446744073709551616:=by
  apply C0i hW
  have t1:18446744073709551616*(b64^k*2^(64-s))*2^s=18446744073709551616*b64^k*(2^s*2^(64-s)):=by grind
  rw [hsp] at t1
  have t2:b64^(k+1+1)=18446744073709551616*b64^k*18446744073709551616:=by
   rw [B91,B91]
   show b64^k*18446744073709551616*18446744073709551616=_
   grind
  rw [t2,<- t1] at hY1
  exact Int.lt_of_mul_lt_mul_right hY1 (by omega)
 have hSF:val b64 ys/(b64^k*2^(64-s))<=val b64 xs/(b64^k*2^(64-s)):=Int.ediv_le_ediv hW hba
 have q1:∀ z:Int,0<=z/\z<18446744073709551616->0<=z/2^(64-s)/\z/2^(64-s)<2^s:=fun z hz=>
  ⟨C0y hz.1 (by omega),C0i hpp (by rw [hsp];exact hz.2)⟩
 have hor:∀ u z:Int,0<=u->0<=z/\z<18446744073709551616->u*2^s+z/2^(64-s)<18446744073709551616->bor .u64 (C3 (u*2^(min (C3 (s:Int)).toNat 64))) (C0r z (2^(min (C3 (64-C3 (s:Int))).toNat 64)))=u*2^s+z/2^(64-s):=by
  intro u z hu hz huz
  have:=q1 z hz
  have:=B9s hu (B8v hps)
  rw [es,es2,B8g,B8g,A8w (by omega),B8s (show s<=64 by omega),C4 (by omega) (by omega),Xx hu (by omega) huz]
 have gy:=K5 dy (k+1)
 have gy2:=K5 dy k
 rw [ht] at hFa
 refine ⟨fun l hp=>hp=h/\l=[U (val b64 ys/(b64^k*2^(64-s)))],?_,?_⟩
 ·refine D9 (fun e=>?_) (fun e=>?_)
  ·rw [hyl]
   refine sy.load rfl (by omega) (by omega) ?_
   simp only [B8g]
   refine B7 (fun e=>by rw [es] at e;omega) (fun _=>?_)
   refine sy.load rfl (by omega) (by omega) ?_
   simp only [B8g]
   refine B7 (fun e=>by rw [es,es2] at e;omega) (fun _=>?_)
   rw [hor _ _ gy.1 gy2 (by omega),hSb]
   first|exact ⟨rfl,rfl⟩|exact ⟨trivial,rfl⟩
  ·refine D9 (fun e=>?_) (fun e=>?_)
   ·rw [hyl]
    refine sy.load rfl (by omega) (by omega) ?_
    simp only [B8g]
    refine B7 (fun e=>by rw [es,es2] at e;omega) (fun _=>?_)
    have:ys.getD (k+1) 0=0:=by simp [C0q,B9u (show ys.length<=k+1 by omega)]
    rw [this,Int.zero_mul,Int.zero_add] at hSb
    rw [es,es2,B8g,A8w (by omega),hSb]
    first|exact ⟨rfl,rfl⟩|exact ⟨trivial,rfl⟩
   ·have t1:ys.getD (k+1) 0=0:=by simp [C0q,B9u (show ys.length<=k+1 by omega)]
    have t2:ys.getD k 0=0:=by simp [C0q,B9u (show ys.length<=k by omega)]
    rw [t1,t2,Int.zero_mul,Int.zero_add,Int.zero_ediv] at hSb
    rw [hSb]
    exact ⟨rfl,rfl⟩
 ·rintro second hp1 ⟨rfl,hl2⟩
  simp only [B8p,B8w,and_true,true_and] at hl2
  subst hl2
  exact A8v (F:=val b64 xs/(b64^k*2^(64-s))) (by rw [hor _ _ (by omega) gt2 (by omega),hFa]) hW rfl rfl hb0 hba hFlt hK
end
theorem Win.swap{k k':IntKind}{h g1 g:Heap}{ba bb:Nat}{e e':TypeId}{A B:Option Addr}{pa qa pb qb:List Value}{us bs:List Int}(wa:Win k h g1 ba e A pa us qa)(wb:Win k' g1 g bb e' B pb bs qb):∃ g2,Win k' h g2 bb e' B pb bs qb/\Win k g2 g ba e A pa us qa:=by
 have hne:ba≠bb:=by
  rintro rfl
  have:=wa.free
  rw [wb.eq,C1] at this
  cases this
 have hga:g ba=none:=by
  have:=wa.free
  rwa [wb.eq,B6 _ _ hne] at this
 refine ⟨g.put ba (.cells (pa++us.map (B8y k)++qa).toArray e),⟨?_,?_,wb.at_⟩,⟨hga,rfl,wa.at_⟩⟩
 ·rw [B6 _ _ hne.symm];exact wb.free
 ·rw [wa.eq,wb.eq];exact Heap.put_comm _ _ _ hne.symm
theorem Tl{z y c:Int}(hz:0<=z/\z<18446744073709551616)(hy:0<=y/\y<18446744073709551616)(hc:0<=c/\c<=1):(z-y-c)%18446744073709551616=z-y-c+18446744073709551616*(if z-y-c<0 then 1 else 0):=by
 split<;>omega
theorem Xg(z:Int):z%18446744073709551616=z-18446744073709551616*(z/18446744073709551616):=by omega
theorem Im{x y c:Int}(hx:0<=x/\x<18446744073709551616)(hy:0<=y/\y<18446744073709551616)(hc:0<=c/\c<18446744073709551616):0<=(x*y+c)/18446744073709551616/\(x*y+c)/18446744073709551616<18446744073709551616:=by
 have h0:=B9s hx.1 hy.1
 have h1:x*y<=18446744073709551615*y:=B8m (by omega) hy.1
 omega
theorem pin{v w B m:Int}(h:v=w+B*m)(hv:0<=v/\v<B)(hw:0<=w/\w<B):v=w:=by
 have hB:0<B:=by omega
 by_cases h0:m <= -1
 ·have:=B8x h0 (B8v hB);omega
 ·by_cases h1:1<=m
  ·have:=B8x h1 (B8v hB);omega
  ·obtain rfl:m=0:=by omega
   omega
section
variable {h g g1:Heap} {K:VP} {A B:Option Addr} {ac bc an bn ba bb:Nat} {e:TypeId} {qa qb:List Value}
set_option maxHeartbeats 1000000 in
theorem A3b{us bs:List Int}{u0 u1 v0 v1:Int}{odd:Bool}(wa:Win .u64 h g1 ba e A [] us qa)(wb:Win .u64 g1 g bb e B [] bs qb)(ha:an=us.length)(hb:bn=bs.length)(hab:us.length=bs.length)(da:Dig b64 us)(db:Dig b64 bs)(hl:us.length<=1000000000)(hu0:0<=u0/\u0<18446744073709551616)(hu1:0<=u1/\u1<18446744073709551616)(hv0:0<=v0/\v0<18446744073709551616)(hv1:0<=v1/\v1<18446744073709551616)
 (hX0:0<=Gt (val b64 us) (val b64 bs) u0 v0 odd/\Gt (val b64 us) (val b64 bs) u0 v0 odd<b64^us.length) (hX1:0<=Gs (val b64 us) (val b64 bs) u1 v1 odd/\Gs (val b64 us) (val b64 bs) u1 v1 odd<b64^us.length)
 (hK:∀ us' bs' h' g1',us'.length=us.length->bs'.length=us.length->Dig b64 us'->Dig b64 bs'->val b64 us'=Gt (val b64 us) (val b64 bs) u0 v0 odd->val b64 bs'=Gs (val b64 us) (val b64 bs) u1 v1 odd->Win .u64 h' g1' ba e A [] us' qa->Win .u64 g1' g bb e B [] bs' qb->K (.tuple #[]) h'):
 FCall prog Um #[.agg #[U u0,U u1,U v0,U v1,.bool odd],.slice A an ac,.slice B bn bc] h K:=by
 subst ha hb
 refine A7a _ _ _ _ _ _ _ _ _ _ _ ?_
 unfold B17
 refine ⟨fun l hp=>∃ (k:Nat) (cP cQ cR cT bo lo:Int) (xs ys:List Int) (g1:Heap),l=[U cP,U cQ,U cR,U cT,U bo,U lo,I k]/\k<=us.length/\xs.length=us.length/\ys.length=us.length/\Dig b64 xs/\Dig b64 ys/\(0<=cP/\cP<18446744073709551616)/\(0<=cQ/\cQ<18446744073709551616)/\(0<=cR/\cR<18446744073709551616)/\(0<=cT/\cT<18446744073709551616)/\(0<=bo/\bo<=1)/\(0<=lo/\lo<=1)/\Win .u64 hp g1 ba e A [] xs qa/\Win .u64 g1 g bb e B [] ys qb/\xs.drop k=us.drop k/\ys.drop k=bs.drop k/\
  val b64 (xs.take k)=Gt (val b64 (us.take k)) (val b64 (bs.take k)) u0 v0 odd+b64^k*((if odd then cQ-cP else cP-cQ)+bo)/\val b64 (ys.take k)=Gs (val b64 (us.take k)) (val b64 (bs.take k)) u1 v1 odd+b64^k*((if odd then cT-cR else cR-cT)+lo),fun l _=>us.length-(iAt l 6).toNat,⟨0,0,0,0,0,0,0,us,bs,g1,rfl,by omega,rfl,hab.symm,da,db,by omega,by omega,by omega,by omega,by omega,by omega,wa,wb,rfl,rfl,by simp [val,Gt],by simp [val,Gs]⟩,?_⟩
 rintro cP cQ cR cT bo lo i hp ⟨k,cP',cQ',cR',cT',bo',lo',xs,ys,g1,hli,hk,hxl,hyl,dx,dy,hP,hQ,hR,hT,hbo,hlo,wx,wy,hdx,hdy,hvx,hvy⟩
 simp only [B8p,B8w,and_true,true_and] at hli
 obtain ⟨rfl,rfl,rfl,rfl,rfl,rfl,rfl⟩:=hli
 refine B7 (fun h1=>?_) (fun h1=>?_)
 ·have gx:=K5 dx k
  have gy:=K5 dy k
  have hxx:=G7 hdx
  have hyy:=G7 hdy
  have vx:=C7 b64 us k
  have vy:=C7 b64 bs k
  obtain ⟨g2,wy2,wx2⟩:=wx.swap wy
  refine wx.sl.load hxl.symm (by omega) (by omega) ?_
  refine wy2.sl.load (by omega) (by omega) (by omega) ?_
  simp only [B8g]
  obtain ⟨aA,hA,_⟩:=SlV.at wx.sl (i:=k) (by simp;omega)
  obtain ⟨aB,hB,_⟩:=SlV.at wy.sl (i:=k) (by simp;omega)
  generalize hx0:xs.getD k 0=x at *
  generalize hy0:ys.getD k 0=y at *
  refine O9 gx hu0 hP ⟨_,_,rfl,?_⟩
  refine O9 gy hv0 hQ ⟨_,_,rfl,?_⟩
  refine O9 gy hv1 hR ⟨_,_,rfl,?_⟩
  refine O9 gx hu1 hT ⟨_,_,rfl,?_⟩
  have bP:=Im gx hu0 hP
  have bQ:=Im gy hv0 hQ
  have bR:=Im gy hv1 hR
  have bT:=Im gx hu1 hT
  have mP:=Bo (x*u0+cP)
  have mQ:=Bo (y*v0+cQ)
  have mR:=Bo (y*v1+cR)
  have mT:=Bo (x*u1+cT)
  have kP:=Xg (x*u0+cP)
  have kQ:=Xg (y*v0+cQ)
  have kR:=Xg (y*v1+cR)
  have kT:=Xg (x*u1+cT)
  have ek:B5 ((k:Int)+1)=((k+1:Nat):Int):=by rw [B8 (by omega) (by omega)];omega
  rw [ek]
  generalize (x*u0+cP)/18446744073709551616=cP2 at *
  generalize (y*v0+cQ)/18446744073709551616=cQ2 at *
  generalize (y*v1+cR)/18446744073709551616=cR2 at *
  generalize (x*u1+cT)/18446744073709551616=cT2 at *
  generalize (x*u0+cP)%18446744073709551616=p at *
  generalize (y*v0+cQ)%18446744073709551616=q at *
  generalize (y*v1+cR)%18446744073709551616=r at *
  generalize (x*u1+cT)%18446744073709551616=t at *
  have hpk:b64^(k+1)=b64^k*18446744073709551616:=B91 _ _
  cases odd with
  | true=>
   refine Br.of (fun _=>?_) (fun e=>by cases e)
   refine Cj mP mQ hbo ⟨_,_,rfl,aA,hA,by omega,by omega,wx.storeN D8 hA (by omega) ?_⟩
   intro h2 w2
   refine Cj mR mT hlo ⟨_,_,rfl,aB,hB,by omega,by omega,?_⟩
   obtain ⟨g3,wy3,wx3⟩:=w2.swap wy
   refine wy3.storeN D8 hB (by omega) ?_
   intro h4 w4
   obtain ⟨g5,wx5,wy5⟩:=w4.swap wx3
   refine ⟨⟨k+1,_,_,_,_,_,_,_,_,g5,rfl,by omega,by simpa using hxl,by simpa using hyl,dx.set (Bo _),dy.set (Bo _),bP,bQ,bR,bT,by split<;>omega,by split<;>omega,wx5,wy5,?_,?_,?_,?_⟩,by simp only [iAt,B8l,B8n];omega⟩
   ·rw [E5 (by omega)];exact E9 hdx
   ·rw [E5 (by omega)];exact E9 hdy
   ·rw [D5 (by omega),G0,B8o,B8s (by omega),hpk,vx,vy,<- hxx,<- hyy,hvx,Tl mP mQ hbo]
    simp only [Gt,if_true]
    grind
   ·rw [D5 (by omega),G0,B8o,B8s (by omega),hpk,vx,vy,<- hxx,<- hyy,hvy,Tl mR mT hlo]
    simp only [Gs,if_true]
    grind
  | false=>
   refine Br.of (fun e=>by cases e) (fun _=>?_)
   refine Cj mQ mP hbo ⟨_,_,rfl,aA,hA,by omega,by omega,wx.storeN D8 hA (by omega) ?_⟩
   intro h2 w2
   refine Cj mT mR hlo ⟨_,_,rfl,aB,hB,by omega,by omega,?_⟩
   obtain ⟨g3,wy3,wx3⟩:=w2.swap wy
   refine wy3.storeN D8 hB (by omega) ?_
   intro h4 w4
   obtain ⟨g5,wx5,wy5⟩:=w4.swap wx3
   refine ⟨⟨k+1,_,_,_,_,_,_,_,_,g5,rfl,by omega,by simpa using hxl,by simpa using hyl,dx.set (Bo _),dy.set (Bo _),bP,bQ,bR,bT,by split<;>omega,by split<;>omega,wx5,wy5,?_,?_,?_,?_⟩,by simp only [iAt,B8l,B8n];omega⟩
   ·rw [E5 (by omega)];exact E9 hdx
   ·rw [E5 (by omega)];exact E9 hdy
   ·rw [D5 (by omega),G0,B8o,B8s (by omega),hpk,vx,vy,<- hxx,<- hyy,hvx,Tl mQ mP hbo]
    simp only [Gt,C05,if_false]
    grind
   ·rw [D5 (by omega),G0,B8o,B8s (by omega),hpk,vx,vy,<- hxx,<- hyy,hvy,Tl mT mR hlo]
    simp only [Gs,C05,if_false]
    grind
 ·obtain rfl:k=us.length:=by omega
  rw [B8k (show xs.length<=us.length by omega),C0u,B8k (show bs.length<=us.length by omega)] at hvx
  rw [B8k (show ys.length<=us.length by omega),C0u,B8k (show bs.length<=us.length by omega)] at hvy
  have bx:=M0 (by decide) dx
  have by_:=M0 (by decide) dy
  rw [hxl] at bx
  rw [hyl] at by_
  exact hK xs ys hp g1 hxl hyl dx dy (pin hvx ⟨C5 (by decide) dx,bx⟩ hX0) (pin hvy ⟨C5 (by decide) dy,by_⟩ hX1) wx wy
end
theorem Win.priv{k:IntKind}{h g:Heap}{b m c:Nat}{e:TypeId}{A:Option Addr}{xs:List Int}{post:List Value}(w:Win k h g b e A [] xs post)(hx:xs≠[])(hc:c=xs.length+post.length)(hm:m<=xs.length):Priv h g e 1 A m c ((xs.take m).map (B8y k)):=by
 refine ⟨by simp;omega,by omega,.inr ⟨b,xs.map (B8y k)++post,?_,w.free,?_,by simp;omega,?_⟩⟩
 ·rcases w.at_ with h0|h0
  ·exact absurd h0 hx
  ·simpa using h0
 ·have:=w.eq
  rwa [C0g] at this
 ·rw [B8z,B98 (by simp;omega),List.map_take]
theorem Ca{k:IntKind}{h g:Heap}{n c:Nat}{e:TypeId}{A:Option Addr}{xs:List Int}(p:Priv h g e 1 A n c (xs.map (B8y k)))(hx:xs≠[]):∃ b post,Win k h g b e A [] xs post/\c=xs.length+post.length:=by
 obtain ⟨h1,h2,h3⟩:=p
 rw [B9z] at h1
 rcases h3 with ⟨hc,rfl⟩|⟨b,arr,hA,hb,rfl,h4,h5⟩
 ·exact absurd (B8j (by omega)) hx
 ·refine ⟨b,arr.drop (n*1),⟨hb,?_,.inr hA⟩,?_⟩
  ·rw [C0g,<- h5,B9t]
  ·rw [B93];omega
theorem Priv.swap{h g1 g:Heap}{e e':TypeId}{s s' n c m d:Nat}{A B:Option Addr}{xs ys:List Value}(pa:Priv h g1 e s A n c xs)(pb:Priv g1 g e' s' B m d ys):∃ g2,Priv h g2 e' s' B m d ys/\Priv g2 g e s A n c xs:=by
 obtain ⟨a1,a2,a3⟩:=pa
 obtain ⟨b1,b2,b3⟩:=pb
 rcases a3 with ⟨hc,rfl⟩|⟨ba,arr,hA,hfa,rfl,a4⟩
 ·exact ⟨g,⟨b1,b2,b3⟩,⟨a1,a2,.inl ⟨hc,rfl⟩⟩⟩
 ·rcases b3 with ⟨hd,rfl⟩|⟨bb,brr,hB,hfb,rfl,b4⟩
  ·exact ⟨_,⟨b1,b2,.inl ⟨hd,rfl⟩⟩,⟨a1,a2,.inr ⟨ba,arr,hA,hfa,rfl,a4⟩⟩⟩
  ·have hne:ba≠bb:=by
    rintro rfl
    rw [C1] at hfa;cases hfa
   rw [B6 _ _ hne] at hfa
   refine ⟨g.put ba (.cells arr.toArray e),⟨b1,b2,.inr ⟨bb,brr,hB,?_,Heap.put_comm _ _ _ hne.symm,b4⟩⟩,⟨a1,a2,.inr ⟨ba,arr,hA,hfa,rfl,a4⟩⟩⟩
   rw [B6 _ _ hne.symm];exact hfb
abbrev Pw(h g:Heap)(A:Option Addr)(n c:Nat)(us:List Int):Prop:=Priv h g B9 1 A n c (us.map (B8y .u64))
def GI(h:Heap)(G:Nat)(hp:Heap)(A:Option Addr)(n c:Nat)(B:Option Addr)(m d:Nat):Prop:=∃ (us vs:List Int) (g1 g:Heap),h.le g/\Pw hp g1 A n c us/\Pw g1 g B m d vs/\Dig b64 us/\Dig b64 vs/\Norm us/\Norm vs/\n=us.length/\m=vs.length/\val b64 vs<=val b64 us/\C0x (val b64 us) (val b64 vs)=G/\us.length<=100000000
theorem A5o{a b:Int}(ha:0<=a)(hb:0<=b):C0x b (a%b)=C0x a b:=by
 obtain ⟨x,rfl⟩:=B9n ha
 obtain ⟨y,rfl⟩:=B9n hb
 rw [<- C0c,B9m,B9m,Nat.gcd_comm x,Nat.gcd_comm y,<- Nat.gcd_rec]
section
variable {h g:Heap} {K:VP} {A B:Option Addr} {ac bc:Nat}
set_option maxHeartbeats 1000000 in
theorem A98{G an bn:Nat}{hp:Heap}(gl:Gtz h)(gi:GI h G hp A an ac B bn bc)(hK:∀ A' m c' h',h.le h'->m<=c'->Mw h' A' m (G:Int)->K (.slice A' m c') h'):Hl prog K A an ac B bn bc hp:=by
 unfold Hl
 refine ⟨fun l hp=>∃ (A B:Option Addr) (n c m d:Nat),l=[.slice A n c,.slice B m d]/\GI h G hp A n c B m d,fun l hp=>match l with|[_,.slice B n _]=>B2e b64 hp B n|_=>0,⟨_,_,_,_,_,_,rfl,gi⟩,?_⟩
 rintro A1 n1 c1 B1 m1 d1 hp ⟨A,B,n,c,m,d,hl,us,vs,g1,g,lg,pa,pb,du,dv,nu,nv,hn,hm,hvu,hgcd,hul⟩
 simp only [B8p,B8t,and_true] at hl
 obtain ⟨⟨rfl,rfl,rfl⟩,rfl,rfl,rfl⟩:=hl
 have Ma:Mw hp A1 n1 (val b64 us):=⟨us,hn,pa.slV,du,nu,rfl⟩
 have Mb:Mw hp B1 m1 (val b64 vs):=⟨vs,hm,SlV.mono pa.le pb.slV,dv,nv,rfl⟩
 have hca:=pa.2.1
 have hcb:=pb.2.1
 have hu0:=C5 (by decide) du
 have hv0:=C5 (by decide) dv
 have hmn:m1<=n1:=Mb.len_le (by decide) (B9l hvu (Ma.lt (by decide)))
 have lhp:h.le hp:=B0 lg (B0 pb.le pa.le)
 have hbz:=Mb.len_zero (by decide)
 refine B7 (fun h1=>?_) (fun h1=>?_)
 ·refine To Ma Mb hvu (by omega) (by omega) ?_
  intro u0 u1 v0 v1 odd st
  refine ⟨_,_,_,_,_,rfl,D9 (fun e=>?_) (fun e=>?_)⟩
  ·refine P4 Ma Mb hca hcb (by omega) (by omega) (by omega) ?_
   intro A2 m2 c2 A3 m3 c3 h6 l6 k2 k3 M2 M3
   refine ⟨_,_,_,_,_,_,rfl,?_⟩
   have hm3:m3<=m1:=M3.len_le (by decide) (by have:=B8u (val b64 us) (show 0<val b64 vs by omega);have:=Mb.lt (by decide);omega)
   obtain ⟨ws,hwl,sws,dws,nws,hwv⟩:=M3
   refine Bt sws hwl (by omega) ?_
   intro A4 c4 h7 g7 l7 p7
   obtain ⟨g2,pb2,pa2⟩:=pa.swap pb
   obtain ⟨g8,l8,pb8⟩:=pb2.after (B0 l6 l7)
   obtain ⟨g9,pB9,pA9⟩:=Priv.swap p7 pb8
   have hlt:=B8u (val b64 us) (show 0<val b64 vs by omega)
   have Mn:Mw h7 A4 ws.length (val b64 ws):=⟨ws,rfl,p7.slV,dws,nws,rfl⟩
   refine ⟨_,_,_,rfl,⟨_,_,_,_,_,_,rfl,vs,ws,g9,g8,B0 lg (B0 pa2.le l8),pB9,pA9,dv,dws,nv,nws,hm,rfl,by omega,?_,by omega⟩,?_⟩
   ·rw [hwv,A5o hu0 hv0];exact hgcd
   ·simp only [Ed Mn,Ed Mb]
    have:=C5 (by decide) dws
    omega
  ·obtain ⟨hu0',hu1',hv0',hv1',lh⟩:=st
   have lh:=lh e
   unfold Lp
   obtain ⟨g2,pb2,pa2⟩:=pa.swap pb
   refine ⟨fun l hp=>∃ (B:Option Addr) (m d j:Nat) (g1 g:Heap),l=[.slice B m d]/\h.le g/\Pw hp g1 B m d (vs++B8h j 0)/\Pw g1 g A1 n1 c1 us/\m=vs.length+j/\m<=n1,fun l _=>match l with|[.slice _ m _]=>n1-m|_=>0,⟨B1,m1,d1,0,g2,g,rfl,lg,by simpa using pb2,pa2,by omega,hmn⟩,?_⟩
   rintro B2 m2 d2 hp8 ⟨B',m',d',j,g3,g4,hl2,lg4,pb3,pa3,hmj,hmn2⟩
   simp only [B8p,B8t,and_true] at hl2
   obtain ⟨rfl,rfl,rfl⟩:=hl2
   refine B7 (fun h2=>?_) (fun h2=>?_)
   ·refine Eb L0 pb3 rfl rfl (by omega) (by omega) ?_
    intro A5 c5 h5 g5 l5 p5
    obtain ⟨g6,l6,pa6⟩:=pa3.after l5
    refine ⟨⟨A5,m2+1,c5,j+1,g5,g6,rfl,B0 lg4 l6,?_,pa6,by omega,by omega⟩,by simp only;omega⟩
    have p6:=p5
    rw [<- C0p (f:=B8y .u64),<- B9y,B8q,<- C0l] at p6
    exact p6
   ·obtain ⟨g5,pa5,pb5⟩:=pb3.swap pa3
    have hvl:(vs++B8h j (0:Int)).length=us.length:=by simp;omega
    have hune:us≠[]:=by rintro rfl;simp at hn;omega
    have hvne:vs++B8h j (0:Int)≠[]:=by intro h0;rw [h0] at hvl;simp at hvl;exact hune (B8j hvl.symm)
    obtain ⟨ba,qa,wa,hqa⟩:=Ca pa5 hune
    obtain ⟨bb,qb,wb,hqb⟩:=Ca pb5 hvne
    have hgl:=lh.gcd
    have hord:=lh.ord
    have hle:=lh.le
    have hblt:val b64 vs<b64^us.length:=by rw [<- hn];exact B9l hvu (Ma.lt (by decide))
    refine A3b wa wb hn (by omega) hvl.symm du (dv.append (K6 (by decide) _)) (by omega) hu0' hu1' hv0' hv1' (by rw [Ae];omega) (by rw [Ae];omega) ?_
    intro us' vs' h6 g6 hul' hvl' du' dv' hX0 hX1 wa' wb'
    rw [Ae] at hX0 hX1
    have hune':us'≠[]:=by rintro rfl;simp at hul';exact hune (B8j hul'.symm)
    have hvne':vs'≠[]:=by rintro rfl;simp at hvl';exact hune (B8j hvl'.symm)
    refine ⟨rfl,?_⟩
    rw [show n1=us'.length by omega]
    refine Bf wa'.sl (by omega) (by omega) ?_
    intro k1 hk1 nk1 vk1
    refine ⟨_,_,_,rfl,?_⟩
    rw [show m2=vs'.length by omega]
    refine Bf (SlV.mono wa'.le wb'.sl) (by omega) (by omega) ?_
    intro k2 hk2 nk2 vk2
    have pA:=wa'.priv (m:=k1) (c:=c1) hune' (by omega) hk1
    have pB:=wb'.priv (m:=k2) (c:=d2) hvne' (by omega) hk2
    have e1:(us'.take k1).length=k1:=by rw [B8o];omega
    have e2:(vs'.take k2).length=k2:=by rw [B8o];omega
    have Mn:Mw h6 B2 k2 (val b64 (vs'.take k2)):=⟨vs'.take k2,e2.symm,SlV.mono pA.le pB.slV,dv'.take _,nk2,rfl⟩
    refine ⟨_,_,_,rfl,⟨_,_,_,_,_,_,rfl,us'.take k1,vs'.take k2,_,_,lg4,pA,pB,du'.take _,dv'.take _,nk1,nk2,e1.symm,e2.symm,?_,?_,by omega⟩,?_⟩
    ·rw [vk1,vk2,hX0,hX1];omega
    ·rw [vk1,vk2,hX0,hX1,hgl];exact hgcd
    ·simp only [Ed Mn,Ed Mb]
     rw [vk2,hX1];omega
 ·refine D9 (fun h2=>?_) (fun h2=>?_)
  ·have h0:val b64 vs=0:=hbz.2 (by omega)
   rw [h0,Int.gcd_zero_right] at hgcd
   refine hK _ _ _ _ lhp hca ?_
   rw [<- hgcd,Int.natAbs_of_nonneg hu0];exact Ma
  ·have hm1:m1=1:=by omega
   obtain ⟨w,rfl⟩:∃ w,vs=[w]:=by
    rcases vs with _|⟨w,_|⟨w',r⟩⟩
    ·simp at hm;omega
    ·exact ⟨w,rfl⟩
    ·simp at hm;omega
   have hw:=dv w (by simp)
   rw [Ce] at *
   obtain ⟨t,rfl⟩:∃ t:Nat,w=(t:Int):=B9n hw.1
   have hw2:(t:Int)<18446744073709551616:=hw.2
   have ht0:0<t:=by omega
   have sb:SlI .u64 hp B1 [(t:Int)]:=SlV.mono pa.le pb.slV
   refine sb.load hm (by omega) (by omega) ?_
   refine sb.load hm (by omega) (by omega) ?_
   show FCall _ _ #[_,U ((t:Nat):Int)] _ _
   refine Ag Ma ⟨ht0,by omega⟩ (by omega) ⟨_,rfl,B4 _,?_⟩
   have r0:=B9d (val b64 us) (b:=(t:Int)) (by omega)
   have r1:=B8u (val b64 us) (show (0:Int)<(t:Int) by omega)
   have hgm:=A5o hu0 (show (0:Int)<=(t:Int) by omega)
   obtain ⟨r,hr⟩:=B9n r0
   rw [hr] at r1 hgm ⊢
   show FCall _ _ #[U ((t:Nat):Int),_] _ _
   refine Xn (gl.mono lhp) (by omega) (by omega) ⟨_,rfl,B4 _,?_⟩
   rw [B9m] at hgm
   have hle:B9k t r<=t:=Nat.le_of_dvd ht0 (Nat.gcd_dvd_left t r)
   refine W6 (by omega) ?_
   intro A2 m2 c2 h2 l2 k2 M2
   rw [hgm,hgcd] at M2
   exact ⟨_,_,_,rfl,l2,hK _ _ _ _ (B0 lhp l2) k2 M2⟩
theorem Iq{x y:Int}{an bn:Nat}(gl:Gtz h)(ma:Mw h A an x)(mb:Mw h B bn y)(ha:an<=ac)(hb:bn<=bc)(hl:an<=100000000)(hl2:bn<=100000000)(hK:∀ A' m c' h',h.le h'->m<=c'->Mw h' A' m (C0x x y:Int)->K (.slice A' m c') h'):FCall prog Cr #[.slice A an ac,.slice B bn bc] h K:=by
 refine Yg _ _ _ _ _ _ ?_
 unfold Yh
 refine ⟨fun l hp=>hp=h/\∃ (A B:Option Addr) (n c m d:Nat) (x1 y1:Int),l=[.slice A n c,.slice B m d]/\Mw h A n x1/\Mw h B m y1/\y1<=x1/\n<=c/\m<=d/\n<=100000000/\m<=100000000/\C0x x1 y1=C0x x y,?_,?_⟩
 ·refine I8 ma mb (by omega) ⟨_,rfl,B7 (fun h1=>?_) (fun h1=>?_)⟩
  ·rw [Ga] at h1
   exact ⟨rfl,_,_,_,_,_,_,_,_,rfl,mb,ma,by omega,hb,ha,hl2,hl,Int.gcd_comm _ _⟩
  ·rw [Ga] at h1
   exact ⟨rfl,_,_,_,_,_,_,_,_,rfl,ma,mb,by omega,ha,hb,hl,hl2,rfl⟩
 ·rintro A1 n1 c1 B1 m1 d1 hp ⟨rfl,A2,B2,n,c,m,d,x1,y1,hli,M1,M2,hle,k1,k2,l1,l2,hg⟩
  simp only [B8p,B8t,and_true] at hli
  obtain ⟨⟨rfl,rfl,rfl⟩,rfl,rfl,rfl⟩:=hli
  have hx0:=M1.nonneg (by decide)
  refine D9 (fun h1=>?_) (fun h1=>?_)
  ·have:y1=0:=(M2.len_zero (by decide)).2 (by omega)
   subst this
   rw [Int.gcd_zero_right] at hg
   refine hK _ _ _ _ (B4 _) k1 ?_
   rw [<- hg,Int.natAbs_of_nonneg hx0];exact M1
  ·obtain ⟨us,hul,su,du,nu,rfl⟩:=M1
   obtain ⟨vs,hvl,sv,dv,nv,rfl⟩:=M2
   refine Bt su hul (by omega) ?_
   intro A3 c3 h3 g3 l3 p3
   refine ⟨_,_,_,rfl,?_⟩
   refine Bt (SlV.mono (B0 l3 p3.le) sv) hvl (by omega) ?_
   intro A4 c4 h4 g4 l4 p4
   refine ⟨_,_,_,rfl,?_⟩
   obtain ⟨g5,l5,p5⟩:=p3.after l4
   obtain ⟨g6,pa,pb⟩:=Priv.swap p4 p5
   exact A98 gl ⟨us,vs,g6,g5,B0 l3 l5,pa,pb,du,dv,nu,nv,rfl,rfl,hle,hg,by omega⟩ hK
end
structure ZI (h:Heap) (s:Bool) (A:Option Addr) (n c:Nat) (z:Int):Prop where
 cap:n<=c
 mag:Mw h A n (z.natAbs:Int)
 sgn:s=decide (z<0)
theorem ZI.mono{h h':Heap}{s:Bool}{A:Option Addr}{n c:Nat}{z:Int}(i:ZI h s A n c z)(l:h.le h'):ZI h' s A n c z:=⟨i.cap,i.mag.mono l,i.sgn⟩
theorem ZI.zero{h:Heap}{A:Option Addr}:ZI h false A 0 0 0:=⟨B9b _,Mag.zero,rfl⟩
theorem ZI.len{h:Heap}{s:Bool}{A:Option Addr}{n c m:Nat}{z:Int}(i:ZI h s A n c z)(hz:ZB m z)(hm:m<=6400000000):n<=100000000:=by
 obtain ⟨k,hk⟩:∃ k,k=100000000:=⟨_,rfl⟩
 rw [<- hk]
 refine i.mag.len_le (by decide) ?_
 rw [Gq]
 have h1:(z.natAbs:Int)<2^m:=by
  have:((z.natAbs:Nat):Int)<((2^m:Nat):Int):=Int.ofNat_lt.2 hz
  simpa using this
 have h2:=D0 (B:=2) (by decide) (show m<=64*k by omega)
 exact Int.lt_of_lt_of_le h1 h2
theorem ZI.zeroIff{h:Heap}{s:Bool}{A:Option Addr}{n c:Nat}{z:Int}(i:ZI h s A n c z):z=0↔n=0:=by
 have:=i.mag.len_zero (by decide)
 omega
section
variable {h g:Heap} {K:VP} {A B:Option Addr} {s s':Bool} {an ac bn bc m:Nat} {x y:Int}
theorem S0{v:Nat}{n c:Nat}{neg:Bool}(M:Mw h A n (v:Int))(hc:n<=c)(hK:∀ s,ZI h s A n c (if neg then -(v:Int) else v)->K (.agg #[.bool s,.slice A n c]) h):FCall prog T9 #[.bool neg,.slice A n c] h K:=by
 have h0:=M.len_zero (by decide)
 refine A3i _ _ _ _ ?_
 unfold A76
 cases neg with
 | true=>
  refine Br.of (fun _=>hK _ ⟨hc,?_,?_⟩) (fun e=>by cases e)
  ·simpa using M
  ·simp only [if_true,decide_eq_decide];omega
 | false=>
  refine Br.of (fun e=>by cases e) (fun _=>hK _ ⟨hc,?_,?_⟩)
  ·simpa using M
  ·simp
theorem Y3(i:ZI h s A an ac x)(hK:∀ s',ZI h s' A an ac (-x)->K (.agg #[.bool s',.slice A an ac]) h):FCall prog Is #[.agg #[.bool s,.slice A an ac]] h K:=by
 refine B34 _ _ _ _ ?_
 unfold B7s
 refine S0 (neg:= !s) i.mag i.cap ?_
 intro s1 i1
 have e:(if (!s)=true then -(x.natAbs:Int) else x.natAbs)= -x:=by
  have:=i.sgn
  by_cases hx:x<0
  ·simp only [hx,decide_true] at this;subst this;simp;omega
  ·simp only [hx,decide_false] at this;subst this;simp;omega
 rw [e] at i1
 exact ⟨_,_,_,_,rfl,hK _ i1⟩
theorem Be(i:ZI h s A an ac x)(j:ZI h s' B bn bc y)(hx:ZB m x)(hy:ZB m y)(hm:m<=6400000000)(hK:∀ s1 A' n' c' h',h.le h'->ZI h' s1 A' n' c' (x*y)->K (.agg #[.bool s1,.slice A' n' c']) h'):FCall prog Lf #[.agg #[.bool s,.slice A an ac],.agg #[.bool s',.slice B bn bc]] h K:=by
 have la:=i.len hx hm
 have lb:=j.len hy hm
 have hs:=i.sgn
 have hs':=j.sgn
 refine B35 _ _ _ _ _ _ _ _ ?_
 unfold B7t
 refine F3 i.mag j.mag i.cap j.cap (by omega) (by omega) ?_
 intro A1 m1 c1 h1 l1 k1 M1
 refine ⟨_,_,_,rfl,l1,?_⟩
 rw [<- B8r] at M1
 refine S0 (neg:= !(s==s')) M1 k1 ?_
 intro s1 i1
 refine ⟨_,_,_,_,rfl,B4 _,hK _ _ _ _ _ l1 ?_⟩
 have e2:(if (!(s==s'))=true then -((x.natAbs*y.natAbs:Nat):Int) else ((x.natAbs*y.natAbs:Nat):Int))=x*y:=by
  rw [B8r]
  cases s with
  | true=>cases s' with
   | true=>rw [show (x.natAbs:Int)= -x by have:=of_decide_eq_true hs.symm;omega,show (y.natAbs:Int)= -y by have:=of_decide_eq_true hs'.symm;omega];show -x * -y=x*y;exact Int.neg_mul_neg x y
   | false=>rw [show (x.natAbs:Int)= -x by have:=of_decide_eq_true hs.symm;omega,show (y.natAbs:Int)=y by have:=of_decide_eq_false hs'.symm;omega];show -(-x*y)=x*y;rw [Int.neg_mul,Int.neg_neg]
  | false=>cases s' with
   | true=>rw [show (x.natAbs:Int)=x by have:=of_decide_eq_false hs.symm;omega,show (y.natAbs:Int)= -y by have:=of_decide_eq_true hs'.symm;omega];show -(x * -y)=x*y;rw [Int.mul_neg,Int.neg_neg]
   | false=>rw [show (x.natAbs:Int)=x by have:=of_decide_eq_false hs.symm;omega,show (y.natAbs:Int)=y by have:=of_decide_eq_false hs'.symm;omega];rfl
 rw [e2] at i1
 exact i1
theorem Dn(gl:Gtz h)(i:ZI h s A an ac x)(j:ZI h s' B bn bc y)(hx:ZB m x)(hy:ZB m y)(hm:m<=6400000000)(hK:∀ A' n' c' h',h.le h'->ZI h' false A' n' c' (C0x x y:Int)->K (.agg #[.bool false,.slice A' n' c']) h'):FCall prog Ow #[.agg #[.bool s,.slice A an ac],.agg #[.bool s',.slice B bn bc]] h K:=by
 have la:=i.len hx hm
 have lb:=j.len hy hm
 refine B37 _ _ _ _ _ _ _ _ ?_
 unfold B7v
 refine Iq gl i.mag j.mag i.cap j.cap la lb ?_
 intro A1 m1 c1 h1 l1 k1 M1
 refine ⟨_,_,_,rfl,hK _ _ _ _ l1 ⟨k1,?_,?_⟩⟩
 ·rw [B9m] at M1
  rw [Int.natAbs_natCast]
  exact M1
 ·simp
theorem Rj(i:ZI h s A an ac x)(hK:K (I (Int.sign x)) h):FCall prog Ou #[.agg #[.bool s,.slice A an ac]] h K:=by
 have h0:=i.zeroIff
 have hs:=i.sgn
 refine A9u _ _ _ _ ?_
 unfold B5e
 refine D9 (fun e=>?_) (fun e=>?_)
 ·obtain rfl:x=0:=by omega
  simpa using hK
 ·refine Br.of (fun e2=>?_) (fun e2=>?_)
  ·subst e2
   have:=of_decide_eq_true hs.symm
   rw [Int.sign_eq_neg_one_of_neg this] at hK;exact hK
  ·subst e2
   have:=of_decide_eq_false hs.symm
   rw [Int.sign_eq_one_of_pos (by omega)] at hK;exact hK
end
section
variable {h g:Heap} {K:VP} {A B:Option Addr} {s s':Bool} {an ac bn bc m:Nat} {x y:Int}
theorem T8(hs:s=decide (x<0)):(s=true/\x= -(x.natAbs:Int))\/(s=false/\x=(x.natAbs:Int)):=by
 by_cases h:x<0
 ·left;exact ⟨by rw [hs];simpa using h,by omega⟩
 ·right;exact ⟨by rw [hs];simpa using h,by omega⟩
theorem A8m(a b:Nat):(a:Int).tdiv b=((a/b:Nat):Int)/\(-(a:Int)).tdiv (-(b:Int))=((a/b:Nat):Int)/\(-(a:Int)).tdiv b= -((a/b:Nat):Int)/\(a:Int).tdiv (-(b:Int))= -((a/b:Nat):Int):=by
 refine ⟨(B96 a b).symm,?_,?_,?_⟩
 ·rw [Int.neg_tdiv,Int.tdiv_neg,Int.neg_neg,B96]
 ·rw [Int.neg_tdiv,B96]
 ·rw [Int.tdiv_neg,B96]
theorem A8i(a b:Nat):(a:Int).tmod b=((a%b:Nat):Int)/\(-(a:Int)).tmod (-(b:Int))= -((a%b:Nat):Int)/\(-(a:Int)).tmod b= -((a%b:Nat):Int)/\(a:Int).tmod (-(b:Int))=((a%b:Nat):Int):=by
 refine ⟨(B9h a b).symm,?_,?_,?_⟩
 ·rw [Int.neg_tmod,Int.tmod_neg,B9h]
 ·rw [Int.neg_tmod,B9h]
 ·rw [Int.tmod_neg,B9h]
theorem Wa(i:ZI h s A an ac x)(j:ZI h s' B bn bc y)(hx:ZB m x)(hy:ZB m y)(hm:m<=6400000000)(hy0:y≠0)(hK:∀ s1 A1 n1 c1 s2 A2 n2 c2 h',h.le h'->ZI h' s1 A1 n1 c1 (x.tdiv y)->ZI h' s2 A2 n2 c2 (x.tmod y)->K (.tuple #[.agg #[.bool s1,.slice A1 n1 c1],.agg #[.bool s2,.slice A2 n2 c2]]) h'):FCall prog Ov #[.agg #[.bool s,.slice A an ac],.agg #[.bool s',.slice B bn bc]] h K:=by
 have la:=i.len hx hm
 have lb:=j.len hy hm
 have hz:=j.zeroIff
 have cx:=T8 i.sgn
 have cy:=T8 j.sgn
 refine A3f _ _ _ _ _ _ _ _ ?_
 unfold A70
 refine D9 (fun e=>by omega) (fun _=>?_)
 refine P4 i.mag j.mag i.cap j.cap (by omega) (by omega) (by omega) ?_
 intro A1 m1 c1 A2 m2 c2 h1 l1 k1 k2 M1 M2
 refine ⟨_,_,_,_,_,_,rfl,?_⟩
 rw [<- B9v] at M1
 rw [<- C0c] at M2
 refine S0 (neg:= !(s==s')) M1 k1 ?_
 intro s1 i1
 refine ⟨_,_,_,_,rfl,B4 _,?_⟩
 refine S0 (neg:=s) M2 k2 ?_
 intro s2 i2
 refine ⟨_,_,_,_,rfl,B4 _,hK _ _ _ _ _ _ _ _ _ l1 ?_ ?_⟩
 ·have e:(if (!(s==s'))=true then -((x.natAbs/y.natAbs:Nat):Int) else ((x.natAbs/y.natAbs:Nat):Int))=x.tdiv y:=by
   have t:=A8m x.natAbs y.natAbs
   rcases cx with ⟨rfl,hx'⟩|⟨rfl,hx'⟩<;>rcases cy with ⟨rfl,hy'⟩|⟨rfl,hy'⟩<;>rw [<- hx',<- hy'] at t
   ·exact t.2.1.symm
   ·exact t.2.2.1.symm
   ·exact t.2.2.2.symm
   ·exact t.1.symm
  rw [e] at i1;exact i1
 ·have e:(if s=true then -((x.natAbs%y.natAbs:Nat):Int) else ((x.natAbs%y.natAbs:Nat):Int))=x.tmod y:=by
   have t:=A8i x.natAbs y.natAbs
   rcases cx with ⟨rfl,hx'⟩|⟨rfl,hx'⟩<;>rcases cy with ⟨rfl,hy'⟩|⟨rfl,hy'⟩<;>rw [<- hx',<- hy'] at t
   ·exact t.2.1.symm
   ·exact t.2.2.1.symm
   ·exact t.2.2.2.symm
   ·exact t.1.symm
  rw [e] at i2;exact i2
theorem F4(i:ZI h s A an ac x)(hK:K (.bool (decide (x=0))) h):FCall prog F8 #[.agg #[.bool s,.slice A an ac]] h K:=by
 have hz:=i.zeroIff
 refine A3g _ _ _ _ ?_
 unfold A71
 have:((an:Int)==0)=decide (x=0):=by
  by_cases hx:x=0
  ·simp [hx,hz.1 hx]
  ·have:¬ an=0:=fun e=>hx (hz.2 e)
   simp [hx,this]
 rw [this];exact hK
theorem P5(i:ZI h s A an ac x)(hK:K (.bool (decide (x=1))) h):FCall prog W8 #[.agg #[.bool s,.slice A an ac]] h K:=by
 have cx:=T8 i.sgn
 have hz:=i.zeroIff
 have M:=i.mag
 refine A72 _ _ _ _ ?_
 unfold B12
 rcases cx with ⟨rfl,hx⟩|⟨rfl,hx⟩
 ·refine Br.of (fun e=>by cases e) (fun _=>?_)
  rw [show decide (x=1)=false by simp;omega] at hK;exact hK
 ·refine Br.of (fun _=>?_) (fun e=>by cases e)
  obtain ⟨xs,hxl,sx,dx,nx,hxv⟩:=M
  refine D9 (fun e=>?_) (fun e=>?_)
  ·obtain ⟨w,rfl⟩:∃ w,xs=[w]:=by
    rcases xs with _|⟨w,_|⟨w',r⟩⟩
    ·simp at hxl;omega
    ·exact ⟨w,rfl⟩
    ·simp at hxl;omega
   refine sx.load hxl (by omega) (by omega) ?_
   rw [Ce] at hxv
   show K (.bool (w==1)) h
   have:(w==1)=decide (x=1):=by
    by_cases h1:x=1
    ·have:w=1:=by omega
     simp [h1,this]
    ·have:¬ w=1:=by omega
     simp [h1,this]
   rw [this];exact hK
  ·have:¬ x=1:=by
    rintro rfl
    have h1:=i.mag.len_le (j:=1) (by decide) (by decide)
    have h2:¬ an=0:=fun e=>by have:=hz.2 e;omega
    omega
   rw [show decide (x=1)=false by simp [this]] at hK;exact hK
theorem Y2(i:ZI h s A an ac x)(j:ZI h s' B bn bc y)(hx:ZB m x)(hy:ZB m y)(hm:m<=6400000000)(hy0:y≠0)(hK:∀ s1 A1 n1 c1 h',h.le h'->ZI h' s1 A1 n1 c1 (x.tdiv y)->K (.agg #[.bool s1,.slice A1 n1 c1]) h'):FCall prog Ir #[.agg #[.bool s,.slice A an ac],.agg #[.bool s',.slice B bn bc]] h K:=by
 refine B33 _ _ _ _ _ _ _ _ ?_
 unfold B7r
 refine P5 j ⟨_,rfl,B7 (fun e=>?_) (fun e=>?_)⟩
 ·subst e
  exact hK _ _ _ _ _ (B4 _) (by rw [Int.tdiv_one];exact i)
 ·refine Wa i j hx hy hm hy0 ?_
  intro s1 A1 n1 c1 s2 A2 n2 c2 h1 l1 i1 i2
  exact ⟨_,_,_,_,_,_,_,_,rfl,hK _ _ _ _ _ l1 i1⟩
theorem Zg(i:ZI h s A an ac x)(j:ZI h s' B bn bc y)(hx:ZB m x)(hm:m<=6400000000)(hK:K (.bool (decide (x=y))) h):FCall prog Ul #[.agg #[.bool s,.slice A an ac],.agg #[.bool s',.slice B bn bc]] h K:=by
 have la:=i.len hx hm
 have cx:=T8 i.sgn
 have cy:=T8 j.sgn
 have hsx:=i.sgn
 have hsy:=j.sgn
 refine A74 _ _ _ _ _ _ _ _ ?_
 unfold B14
 refine Br.of (fun e=>?_) (fun e=>?_)
 ·have e:s=s':=by simpa using e
  refine I8 i.mag j.mag (by omega) ⟨_,rfl,?_⟩
  have:(Qn (x.natAbs:Int) y.natAbs==0)=decide (x=y):=by
   by_cases h1:x=y
   ·subst h1;unfold Qn;simp
   ·have h2:¬ x.natAbs=y.natAbs:=by
     rcases cx with ⟨rfl,hx'⟩|⟨rfl,hx'⟩<;>rcases cy with ⟨h3,hy'⟩|⟨h3,hy'⟩<;>(rw [<- e] at h3)<;>first|omega|(cases h3)
    unfold Qn
    by_cases h3:(x.natAbs:Int)<y.natAbs
    ·rw [if_pos h3];simp [h1]
    ·rw [if_neg h3,if_pos (by omega)];simp [h1]
  rw [this];exact hK
 ·have e:s≠s':=by simpa using e
  have:¬ x=y:=by rintro rfl;exact e (hsx.trans hsy.symm)
  rw [show decide (x=y)=false by simp [this]] at hK;exact hK
theorem Ho{n:Int}(h1: -9223372036854775808<=n)(h2:n<=9223372036854775807)(hK:∀ s1 A1 n1 c1 h',h.le h'->ZI h' s1 A1 n1 c1 n->K (.agg #[.bool s1,.slice A1 n1 c1]) h'):FCall prog Sb #[I n] h K:=by
 refine B38 _ ?_
 unfold B7w
 refine B7 (fun hn=>?_) (fun hn=>?_)
 ·have e:C3 (0-C3 n)=(n.natAbs:Int):=by rw [F1,F1];omega
  rw [e]
  refine W6 (by omega) ?_
  intro A1 m1 c1 h1 l1 k1 M1
  exact ⟨_,_,_,rfl,hK _ _ _ _ _ l1 ⟨k1,M1,by simpa using hn⟩⟩
 ·have e:C3 n=(n.natAbs:Int):=by rw [F1];omega
  rw [e]
  refine W6 (by omega) ?_
  intro A1 m1 c1 h1 l1 k1 M1
  exact ⟨_,_,_,rfl,hK _ _ _ _ _ l1 ⟨k1,M1,by simpa using hn⟩⟩
end
theorem A2j{P:Program}{t d e:TypeId}(ht:P.underlying t=some .string)(hd:P.underlying d=some (.slice e))(he:P.underlying e=some (.int .u8)){h:Heap}{l:List UInt8}{K:VP}
 (x:∀ A c h',h.le h'->l.length<=c->SlV h' A (yv l)->K (.slice A l.length c) h'):wpH P (convert t d (.string (bs l))) K h:=by
 unfold convert
 simp only [C2,D7 ht,D7 hd,D7 he]
 unfold Conv.stringToBytes
 simp only [C2]
 refine Fl rfl (fun tt=>?_)
 have hsz:(bs l).size=l.length:=by simp [bs,C07]
 have hcap:l.length<=(Question.appendCap (bs l).size 0 e).cut tt:=by
  rw [hsz];simp only [Question.cut];omega
 generalize (Question.appendCap (bs l).size 0 e).cut tt=cap at *
 rw [N6]
 intro b hb
 generalize hcs:((bs l).data.map (fun b=>B8y .u8 b.toNat)++B9p (cap-(bs l).size) (B8y .u8 0))=cs
 have hle:h.le (h.put b (.cells cs e (cs.size,cs.size+1))):=Heap.le_put _ hb
 have hfz:(h.put b (.cells cs e)).freeze { block:=b,off:=cs.size } 1=h.put b (.cells cs e (cs.size,cs.size+1)):=by
  unfold Heap.freeze
  rw [if_neg (by decide)]
  funext k
  by_cases hk:k=b
  ·subst hk
   simp only [if_true,C1,Option.map_some]
   rfl
  ·rw [if_neg hk,B6 _ _ hk,B6 _ _ hk]
 refine ⟨cs,e,_,C1 _ _ _,?_⟩
 refine ⟨⟨_,C1 _ _ _⟩,?_⟩
 show K (.slice (some ⟨b,0,none⟩) (bs l).size cap) ((h.put b (.cells cs e)).freeze { block:=b,off:=cs.size } 1)
 rw [hfz,hsz]
 refine x _ _ _ hle hcap (.inr ⟨_,rfl,?_⟩)
 intro i v hv
 have hi:i<l.length:=by
  have:=(List.getElem?_eq_some_iff.1 hv).1
  simpa [yv] using this
 have e1:Addr.add ⟨b,0,none⟩ i=⟨b,i,none⟩:=by rw [D3,C0d]
 rw [e1,D6,<- hcs,Array.getElem?_append_left (by simp [bs];exact hi)]
 rw [<- hv]
 simp [yv,bs]
theorem ZB.tdiv{m:Nat}{x y:Int}(h:ZB m x):ZB m (x.tdiv y):=by
 unfold ZB at *
 rw [Int.natAbs_tdiv]
 exact Nat.lt_of_le_of_lt (C0f _ _) h
section
variable {h g:Heap} {K:VP} {A B:Option Addr} {s s':Bool} {an ac bn bc m:Nat} {x y:Int}
end
theorem A2u{ws:List Int}{k:Nat}(d:Dig b64 ws)(hl:ws.length=k+1)(h:b64^k<=val b64 ws):Norm ws:=by
 unfold Norm
 intro e
 rw [C10,hl,C04] at e
 have:=(Fm (B:=b64) (by decide) d hl).1
 have e2:ws.getD k 0=0:=by simp [C0q,e]
 rw [e2] at this
 omega
section
variable {h g:Heap} {K:VP} {A B:Option Addr} {ac bc:Nat}
theorem A9k{Invv:LP}{muv:LN}{d1:ByteArray}{n c:Nat}{chunk base:Int}{us:List Int}{hp hp2:Heap}(p:Pw hp2 g A n c us)(hn:n=us.length)(du:Dig b64 us)(nu:Norm us)(hl:n<=100000000)(hch:0<=chunk/\chunk<18446744073709551616)(hba:1<=base/\base<18446744073709551616)
 (hK:∀ A' n' c' us' h' g',g.le g'->Pw h' g' A' n' c' us'->n'=us'.length->n'<=n+1->Dig b64 us'->Norm us'->val b64 us'=chunk+base*val b64 us->Invv [.string ((d1).extract ((B5 ((C0j (B5 (((C07 d1:Nat):Int)-(1:Int))) (19:Int))+(1:Int))).toNat) ((d1).size)),.slice A' n' c'] h'/\muv [.string ((d1).extract ((B5 ((C0j (B5 (((C07 d1:Nat):Int)-(1:Int))) (19:Int))+(1:Int))).toNat) ((d1).size)),.slice A' n' c'] h'<muv [.string d1,.slice A n c] hp):
 R3 prog Invv muv d1 A n c chunk base hp hp2:=by
 have hu0:=C5 (by decide) du
 unfold R3
 refine ⟨fun l hp3=>∃ (k:Nat) (ca:Int) (ws:List Int),l=[U ca,I k]/\k<=n/\(0<=ca/\ca<18446744073709551616)/\ws.length=us.length/\Dig b64 ws/\Pw hp3 g A n c ws/\ws.drop k=us.drop k/\val b64 (ws.take k)+b64^k*ca=chunk+base*val b64 (us.take k),fun l _=>n-(iAt l 1).toNat,⟨0,chunk,us,rfl,by omega,hch,rfl,du,p,rfl,by simp [val]⟩,?_⟩
 rintro ca i hp3 ⟨k,ca',ws,hli,hk,hca,hwl,dw,pw,hdr,hv⟩
 obtain ⟨rfl,rfl⟩:ca=ca'/\i=(k:Int):=by simpa using hli
 refine B7 (fun h1=>?_) (fun h1=>?_)
 ·have gw:=K5 dw k
  have hww:=G7 hdr
  have vu:=C7 b64 us k
  have hne:ws≠[]:=by rintro rfl;simp at hwl;omega
  obtain ⟨b,post,w,hc⟩:=Ca pw hne
  refine w.sl.load (by omega) (by omega) (by omega) ?_
  simp only [B8g]
  generalize hx:ws.getD k 0=x at *
  refine O9 gw (by omega) hca ⟨_,_,rfl,?_⟩
  obtain ⟨a,ha,_⟩:=SlV.at w.sl (i:=k) (by simp;omega)
  refine ⟨a,ha,by omega,by omega,w.storeN D8 ha (by omega) ?_⟩
  intro h4 w4
  have bP:=Im gw (show 0<=base/\base<18446744073709551616 by omega) hca
  have kP:=Xg (x*base+ca)
  have ek:B5 ((k:Int)+1)=((k+1:Nat):Int):=by rw [B8 (by omega) (by omega)];omega
  rw [ek]
  have p4:=w4.priv (m:=n) (c:=c) (by intro e0;have:=congrArg List.length e0;rw [List.length_set,List.length_nil] at this;exact hne (B8j this)) (by simpa using hc) (by simp;omega)
  rw [B8k (by simp;omega)] at p4
  refine ⟨⟨k+1,_,_,rfl,by omega,bP,by simpa using hwl,dw.set (Bo _),p4,?_,?_⟩,by simp only [iAt,B8l,B8n];omega⟩
  ·rw [E5 (by omega)];exact E9 hdr
  ·rw [D5 (by omega),G0,B8o,B8s (by omega),B91,vu,<- hww,kP]
   show _+b64^k*_+b64^k*18446744073709551616*_=_
   generalize (x*base+ca)/18446744073709551616=q at *
   grind
 ·obtain rfl:k=n:=by omega
  rw [B8k (show ws.length<=k by omega),B8k (show us.length<=k by omega)] at hv
  refine H9 (fun h2=>?_) (fun h2=>?_)
  ·refine Eb L0 pw rfl rfl (by omega) (by omega) ?_
   intro A5 c5 h5 g5 l5 p5
   rw [<- C0p (f:=B8y .u64),<- B9y] at p5
   refine hK A5 (k+1) c5 (ws++[ca]) h5 g5 l5 p5 (by simp;omega) (by omega) (dw.append (Dig.one hca)) ?_ ?_
   ·unfold Norm;simpa using h2
   ·rw [G0,<- hv,hwl,<- hn]
  ·subst h2
   rw [Int.mul_zero,Int.add_zero] at hv
   refine hK A k c ws hp3 g (B4 _) pw (by omega) (by omega) dw ?_ hv
   rcases us with _|⟨u,r⟩
   ·have:ws=[]:=B8j (by simpa using hwl)
    rw [this];exact Norm.nil
   ·refine A2u (k:=r.length) dw (by simpa using hwl) ?_
    have M:Mw hp2 A k (val b64 (u::r)):=⟨_,hn,p.slV,du,nu,rfl⟩
    have hge:=M.ge (by decide) (by simp at hn;omega)
    rw [show k-1=r.length by simp at hn;omega] at hge
    have:1*val b64 (u::r)<=base*val b64 (u::r):=B8m hba.1 hu0
    omega
end
section
variable {h g:Heap} {K:VP} {A B:Option Addr} {ac bc:Nat}
theorem B06{k:Nat}(h:k<=19):10^k<=10000000000000000000:=C0e (B94 (by decide) h) (by decide)
theorem A35{Invv:LP}{muv:LN}{d1:ByteArray}{n c tn:Nat}{T:Option Addr}{l:List UInt8}{hp hp1:Heap}(sv:SlV hp1 T (yv l))(ht:tn=l.length)(hd:∀ c∈l,I0 c)(h19:l.length<=19)
 (hK:(0<=B5 ((C0j (B5 (((C07 d1:Nat):Int)-(1:Int))) (19:Int))+(1:Int))/\B5 ((C0j (B5 (((C07 d1:Nat):Int)-(1:Int))) (19:Int))+(1:Int))<=(((d1).size:Nat):Int))/\R3 prog Invv muv d1 A n c (L8 l:Int) ((10^l.length:Nat):Int) hp hp1):
 Ba prog Invv muv d1 A n c T tn hp1 hp:=by
 subst ht
 unfold Ba
 refine ⟨fun s hp=>hp=hp1/\∃ k:Nat,s=[U (L8 (l.take k)),U ((10^k:Nat):Int),I k]/\k<=l.length,fun s _=>l.length-(iAt s 2).toNat,⟨rfl,0,by simp [L8],by omega⟩,?_⟩
 rintro ch ba i hp2 ⟨rfl,k,hli,hk⟩
 simp only [B8p,B8w,and_true,true_and] at hli
 obtain ⟨rfl,rfl,rfl⟩:=hli
 refine B7 (fun h1=>?_) (fun h1=>?_)
 ·have hkl:k<l.length:=by omega
  obtain ⟨a,ha,hc⟩:=SlV.at sv (i:=k) (by rw [Dq];omega)
  have hdc:=hd l[k] (C0v hkl)
  have hlt:=Hf (l:=l.take k) (fun c hc=>hd c (B9w hc))
  rw [B8o,B8s (by omega)] at hlt
  have ht1:=B06 (k:=k+1) (by omega)
  have hps:10^(k+1)=10^k*10:=C02 _ _
  refine ⟨a,ha,by omega,by omega,((l[k].toNat:Nat):Int),?_,?_⟩
  ·rw [B8g,B8z,hc];simp [yv]
  ·unfold I0 at hdc
   have e1:C3 (wu8 (((l[k].toNat:Nat):Int)-48))=((l[k].toNat-48:Nat):Int):=by
    rw [A19 (by omega) (by omega),C4 (by omega) (by omega)];omega
   have e2:C3 (C3 (10*((L8 (l.take k):Nat):Int))+C3 (wu8 (((l[k].toNat:Nat):Int)-48)))=((L8 (l.take (k+1)):Nat):Int):=by
    rw [e1,C4 (n:=10*((L8 (l.take k):Nat):Int)) (by omega) (by omega),C4 (by omega) (by omega),List.take_succ_eq_append_getElem hkl,Iw];omega
   have e3:C3 (((10^k:Nat):Int)*10)=((10^(k+1):Nat):Int):=by rw [C4 (by omega) (by omega),hps];simp
   have e4:B5 ((k:Int)+1)=((k+1:Nat):Int):=by rw [B8 (by omega) (by omega)];omega
   rw [e2,e3,e4]
   exact ⟨⟨rfl,k+1,rfl,by omega⟩,by simp only [iAt,B8l,B8n];omega⟩
 ·obtain rfl:k=l.length:=by omega
  rw [C0u]
  exact hK
theorem Lz{l:List UInt8}(hd:∀ c∈l,I0 c)(hl:l.length<=100000000)(hK:∀ A n c h',h.le h'->n<=c->Mw h' A n (L8 l:Int)->K (.slice A n c) h'):FCall prog J8 #[.string (bs l)] h K:=by
 refine Ps _ ?_
 unfold Ln Gj
 refine ⟨fun s hp=>∃ (l0 l1:List UInt8) (us:List Int) (A:Option Addr) (n c:Nat) (g:Heap),s=[.string (bs l1),.slice A n c]/\l=l0++l1/\h.le g/\Pw hp g A n c us/\n=us.length/\Dig b64 us/\Norm us/\val b64 us=(L8 l0:Int)/\n<=l0.length,fun s _=>match s with|[.string d,_]=>d.size|_=>0,⟨[],l,[],none,0,0,h,rfl,rfl,B4 h,Priv.nil _ _ _ _,rfl,Dig.nil,Norm.nil,rfl,by omega⟩,?_⟩
 rintro d1 A1 n1 c1 hp ⟨l0,l1,us,A2,n2,c2,g,hs,hll,lg,p,hn,du,nu,hv,hnl⟩
 simp only [B8p,B8t,Value.string.injEq,and_true] at hs
 obtain ⟨rfl,rfl,rfl,rfl⟩:=hs
 have hlen:l.length=l0.length+l1.length:=by rw [hll,B8i]
 rw [O6]
 refine B7 (fun h1=>?_) (fun h1=>?_)
 ·obtain ⟨sz,hsz⟩:∃ sz,sz=(l1.length-1)%19+1:=⟨_,rfl⟩
  have e1:B5 (C0j (B5 ((l1.length:Int)-1)) 19+1)=(sz:Int):=by
   rw [B8 (n:=(l1.length:Int)-1) (by omega) (by omega),C0z (by omega),B8 (by omega) (by omega)];omega
  rw [e1,B8g,O2]
  refine ⟨⟨by omega,by omega⟩,A2j R7 Dv.und Bi ?_⟩
  intro T tc h2 l2 htc sv
  refine ⟨_,_,_,rfl,?_⟩
  have e2:(l1.drop 0).take (sz-0)=l1.take sz:=by simp
  rw [e2] at sv ⊢
  have e3:(l1.take sz).length=sz:=by rw [B8o];omega
  obtain ⟨g2,lg2,p2⟩:=p.after l2
  refine A35 sv rfl (fun c hc=>hd c (by rw [hll];exact List.mem_append_right _ (B9w hc))) (by omega) ?_
  rw [O6,e1]
  refine ⟨⟨by omega,by omega⟩,?_⟩
  have hlt:=Hf (l:=l1.take sz) (fun c hc=>hd c (by rw [hll];exact List.mem_append_right _ (B9w hc)))
  rw [e3] at hlt ⊢
  have ht:=B06 (k:=sz) (by omega)
  have hp1:0<10^sz:=B9a (by decide)
  refine A9k p2 hn du nu (by omega) (by omega) (by omega) ?_
  intro A' n' c' us' h' g' lg' p' hn' hnn du' nu' hv'
  rw [O6,e1,B8g,O2,B8k (by rw [B93];omega)]
  refine ⟨⟨l0++l1.take sz,l1.drop sz,us',A',n',c',g',rfl,by rw [B8q,B9t];exact hll,B0 lg (B0 lg2 lg'),p',hn',du',nu',?_,by rw [B8i,e3];omega⟩,?_⟩
  ·rw [hv',hv,Hg,e3,C0h,B8r,B95];omega
  ·simp only [O6,B93];omega
 ·have:l1=[]:=B8j (by omega)
  subst this
  rw [C00] at hll
  subst hll
  exact hK _ _ _ _ (B0 lg p.le) p.2.1 ⟨us,hn,p.slV,du,nu,hv⟩
end
def zb(l:List UInt8):List Int:=l.map fun c=>(c.toNat:Int)
theorem Do(l:List UInt8):(zb l).length=l.length:=by simp [zb]
theorem Wb(a b:List UInt8):zb (a++b)=zb a++zb b:=by simp [zb]
theorem B3v(l:List UInt8):(zb l).map (B8y .u8)=yv l:=by simp [zb,yv]
theorem A2n:∀ v,v<100->G1[2*v+1]? = some (dch (v%10))/\G1[2*v]? = some (dch (v/10)):=by decide +kernel
theorem Wk(a:Nat):C0j (a:Int) 100=((a%100:Nat):Int):=(B9h a 100).symm
theorem tm4(a:Nat):C0j (a:Int) 10000=((a%10000:Nat):Int):=(B9h a 10000).symm
theorem tm8(a:Nat):C0j (a:Int) 100000000=((a%100000000:Nat):Int):=(B9h a 100000000).symm
theorem Zs(a:Nat):C0k (a:Int) 100=((a/100:Nat):Int):=(B96 a 100).symm
theorem td4(a:Nat):C0k (a:Int) 10000=((a/10000:Nat):Int):=(B96 a 10000).symm
theorem td8(a:Nat):C0k (a:Int) 100000000=((a/100000000:Nat):Int):=(B96 a 100000000).symm
theorem Dm{a:Nat}(h:a<4294967296):I9 (a:Int)=a:=A41 (by omega) (by omega)
theorem Ik(a:Nat):(a:Int)*2=((2*a:Nat):Int):=by omega
theorem A0s(a:Nat):(a:Int)+1=((a+1:Nat):Int):=by omega
def FBI(g:Heap)(b:Nat)(e:TypeId)(A:Option Addr)(pre post:List Value)(N u0 nd u:Nat)(hp:Heap):Prop:=
 ∃ (ys:List Int) (t:List UInt8),Win .u8 hp g b e A pre (ys++zb t) post/\ys.length=nd/\nd+t.length=N/\pad N u0=pad nd u++t/\u<10^nd
section
variable {P:Program} {h g:Heap} {K:VP} {A:Option Addr} {b:Nat} {e:TypeId} {pre post:List Value}
theorem Gr(one:P.cellsOf 5=1/\(P.info? 5).isSome=true){N u0 j u:Nat}(f:FBI g b e A pre post N u0 (j+2) u h){E1 E0 I1 I2:Int}(h1:E1=((2*(u%100)+1:Nat):Int))(h0:E0=((2*(u%100):Nat):Int))(hI1:I1=((j+1:Nat):Int))(hI2:I2=(j:Int)){C:Heap->Prop}(hC:∀ h',FBI g b e A pre post N u0 j (u/100) h'->C h'):
 ∃ (t:UInt8),(0<=E1/\G1[E1.toNat]? = some t)/\∃ (t0:UInt8),(0<=E0/\G1[E0.toNat]? = some t0)/\∃ a1,A=some a1/\0<=I1/\I1<((N:Nat):Int)/\wpH P (Instr.storeAt 5 (.pointer (some (Addr.add a1 (I1.toNat*1)))) (Y ((t.toNat:Nat):Int))) (fun _ hp1=>∃ a2,A=some a2/\0<=I2/\I2<((N:Nat):Int)/\wpH P (Instr.storeAt 5 (.pointer (some (Addr.add a2 (I2.toNat*1)))) (Y ((t0.toNat:Nat):Int))) (fun _ hp2=>C hp2) hp1) h:=by
 subst h1 h0 hI1 hI2
 obtain ⟨ys,t,w,hl,hN,hp,hu⟩:=f
 obtain ⟨s1,s0⟩:=A2n (u%100) (by omega)
 have hA:∃ a,A=some a:=by
  rcases w.at_ with h0|h0
  ·have:=congrArg List.length h0
   rw [B8i,List.length_nil] at this;omega
  ·exact ⟨_,h0⟩
 obtain ⟨a,ha⟩:=hA
 have hlt:(ys++zb t).length=N:=by rw [B8i,Do];omega
 refine ⟨_,⟨by omega,by rw [B8g];exact s1⟩,_,⟨by omega,by rw [B8g];exact s0⟩,a,ha,by omega,by omega,?_⟩
 rw [B8g]
 refine w.storeN one ha (by omega) ?_
 intro h2 w2
 refine ⟨a,ha,by omega,by omega,?_⟩
 rw [B8g]
 refine w2.storeN one ha (by rw [List.length_set];omega) ?_
 intro h3 w3
 refine hC h3 ⟨ys.take j,[dch (u/10%10),dch (u%10)]++t,?_,by rw [B8o];omega,by simp;omega,?_,?_⟩
 ·have e1:((ys++zb t).set (j+1) ((dch (u%100%10)).toNat:Int)).set j ((dch (u%100/10)).toNat:Int)=ys.take j++zb ([dch (u/10%10),dch (u%10)]++t):=by
   have e2:ys=ys.take j++[ys[j]'(by omega),ys[j+1]'(by omega)]:=by
    conv=>lhs;rw [<- B9t j ys]
    congr 1
    rw [C06 (by omega),C06 (by omega),B9q (by omega)]
   have hj:(ys.take j).length=j:=by rw [B8o];omega
   rw [e2,show u%100%10=u%10 by omega,show u%100/10=u/10%10 by omega]
   generalize ys[j]'_=y0
   generalize ys[j+1]'_=y1
   rw [B98 (by omega),B8k (show (ys.take j).length<=j by omega)]
   generalize ys.take j=zs at *
   rw [B8q,List.set_append_right _ _ (by omega),List.set_append_right _ _ (by omega),hj,Wb]
   simp [zb]
  rw [e1] at w3;exact w3
 ·rw [hp,B2c];simp
 ·rw [C08] at hu
  exact Nat.div_lt_of_lt_mul (by rw [C03];exact hu)
end
section
variable {h g:Heap} {K:VP} {A:Option Addr} {b:Nat} {e:TypeId} {pre post:List Value}
theorem Hu:prog.cellsOf 5=1/\(prog.info? 5).isSome=true:=A2m
theorem B4h{N u0 nd x:Nat}(hN:N<=24)(f:FBI g b e A pre post N u0 nd x h)(hn:nd<2)(hK:∀ h',Win .u8 h' g b e A pre (zb (pad N u0)) post->K (.tuple #[]) h'):V6 prog A N K nd x h:=by
 obtain ⟨ys,t,w,hl,hN,hp,hu⟩:=f
 unfold V6
 refine B7 (fun h1=>?_) (fun h1=>?_)
 ·obtain rfl:nd=1:=by omega
  obtain ⟨y,rfl⟩:∃ y,ys=[y]:=by
   rcases ys with _|⟨y,_|⟨z,r⟩⟩
   ·simp at hl
   ·exact ⟨y,rfl⟩
   ·simp at hl
  have hA:∃ a,A=some a:=by
   rcases w.at_ with h0|h0
   ·simp at h0
   ·exact ⟨_,h0⟩
  obtain ⟨a,ha⟩:=hA
  refine ⟨a,ha,by omega,by omega,?_⟩
  rw [show ((0:Int)).toNat=0 from rfl]
  refine w.storeN Hu ha (by simp) ?_
  intro h2 w2
  refine hK h2 ?_
  have hx:x<10:=by simpa using hu
  have ev:wu8 (I9 (48+(x:Int)))=((dch x).toNat:Int):=by
   rw [A41 (by omega) (by omega),A19 (by omega) (by omega),Er hx];omega
  rw [ev] at w2
  have e2:pad 1 x=[dch x]:=by
   rw [Na,A55 _ (by omega),show x%10=x by omega];rfl
  rw [hp,e2,Wb]
  simpa [zb] using w2
 ·obtain rfl:nd=0:=by omega
  have:ys=[]:=B8j hl
  subst this
  have hx:x=0:=by simpa using hu
  refine hK h ?_
  rw [hp,A55 _ hx]
  simpa using w
theorem B4g{N u0 nd x:Nat}(hN:N<=24)(f:FBI g b e A pre post N u0 nd x h)(hn:nd<4)(hK:∀ h',Win .u8 h' g b e A pre (zb (pad N u0)) post->K (.tuple #[]) h'):V7 prog A N K nd x h:=by
 unfold V7
 have hx:x<10000:=by
  obtain ⟨_,_,_,_,_,_,hu⟩:=f
  exact B99 hu (C0e (B94 (by decide) (show nd<=4 by omega)) (by decide))
 refine ⟨fun l hp=>∃ nd x:Nat,l=[I nd,U32 x]/\FBI g b e A pre post N u0 nd x hp/\nd<2,B7 (fun h1=>?_) (fun h1=>?_),?_⟩
 ·obtain ⟨j,rfl⟩:∃ j,nd=j+2:=⟨nd-2,by omega⟩
  refine Gr Hu f ?_ ?_ (by rw [B8 (by omega) (by omega)];omega) (by rw [B8 (by omega) (by omega)];omega) ?_
  ·simp (disch:=omega) only [Wk,Dm,Ik,A0s]
  ·simp (disch:=omega) only [Wk,Dm,Ik]
  ·intro h2 f2
   refine ⟨j,x/100,?_,f2,by omega⟩
   rw [B8 (by omega) (by omega),Zs,Dm (by omega)]
   simp only [B8p,B8w,and_true,true_and];omega
 ·exact ⟨nd,x,rfl,f,by omega⟩
 ·rintro nd2 x2 hp ⟨n3,x3,hl,f3,hn3⟩
  obtain ⟨rfl,rfl⟩:nd2=(n3:Int)/\x2=(x3:Int):=by simpa using hl
  exact B4h hN f3 hn3 hK
theorem S5{u an ac:Nat}{xs:List Int}(w:Win .u8 h g b e A pre xs post)(hn:an=xs.length)(hN:an<=24)(hu:u<10^an)(hu2:u<18446744073709551616)(hK:∀ h',Win .u8 h' g b e A pre (zb (pad an u)) post->K (.tuple #[]) h'):FCall prog N4 #[.slice A an ac,U (u:Int)] h K:=by
 refine Mq _ _ _ _ ?_
 unfold Jo
 refine ⟨fun l hp=>∃ nd v:Nat,l=[U v,I nd]/\FBI g b e A pre post an u nd v hp/\v<=u,fun l _=>(iAt l 1).toNat,⟨an,u,rfl,⟨xs,[],by simpa [zb] using w,hn.symm,by simp,by simp,hu⟩,B9b _⟩,?_⟩
 rintro u1 nd1 hp ⟨nd,v,hl,f,hv⟩
 obtain ⟨rfl,rfl⟩:u1=(v:Int)/\nd1=(nd:Int):=by simpa using hl
 have hnN:nd<=an:=by obtain ⟨_,_,_,_,hN,_,_⟩:=f;omega
 refine B7 (fun h1=>?_) (fun h1=>?_)
 ·obtain ⟨j,rfl⟩:∃ j,nd=j+8:=⟨nd-8,by omega⟩
  refine Gr (j:=j+6) Hu f ?_ ?_ (by rw [B8 (by omega) (by omega)];omega) (by rw [B8 (by omega) (by omega)];omega) ?_
  ·simp (disch:=omega) only [tm8,tm4,Wk,Dm,Ik,A0s];omega
  ·simp (disch:=omega) only [tm8,tm4,Wk,Dm,Ik];omega
  intro h2 f2
  refine Gr (j:=j+4) Hu f2 ?_ ?_ (by rw [B8 (by omega) (by omega)];omega) (by rw [B8 (by omega) (by omega)];omega) ?_
  ·simp (disch:=omega) only [tm8,tm4,Zs,Dm,Ik,A0s];omega
  ·simp (disch:=omega) only [tm8,tm4,Zs,Dm,Ik];omega
  intro h3 f3
  refine Gr (j:=j+2) Hu f3 ?_ ?_ (by rw [B8 (by omega) (by omega)];omega) (by rw [B8 (by omega) (by omega)];omega) ?_
  ·simp (disch:=omega) only [tm8,Wk,td4,Dm,Ik,A0s];omega
  ·simp (disch:=omega) only [tm8,Wk,td4,Dm,Ik];omega
  intro h4 f4
  refine Gr (j:=j) Hu f4 ?_ ?_ (by rw [B8 (by omega) (by omega)];omega) (by rw [B8 (by omega) (by omega)];omega) ?_
  ·simp (disch:=omega) only [tm8,Zs,td4,Dm,Ik,A0s];omega
  ·simp (disch:=omega) only [tm8,Zs,td4,Dm,Ik];omega
  intro h5 f5
  have e1:B5 (((j+8:Nat):Int)-8)=(j:Int):=by rw [B8 (by omega) (by omega)];omega
  have e2:C3 (C0k (v:Int) 100000000)=((v/100/100/100/100:Nat):Int):=by
   rw [td8,C4 (by omega) (by omega)];omega
  rw [e1,e2]
  exact ⟨⟨j,_,rfl,f5,by omega⟩,by simp only [iAt,B8l,B8n];omega⟩
 ·have hv8:v<100000000:=by
   obtain ⟨_,_,_,_,_,_,hu⟩:=f
   exact B99 hu (C0e (B94 (by decide) (show nd<=8 by omega)) (by decide))
  refine ⟨fun l hp=>∃ nd x:Nat,l=[I nd,U32 x]/\FBI g b e A pre post an u nd x hp/\nd<4,B7 (fun h2=>?_) (fun h2=>?_),?_⟩
  ·obtain ⟨j,rfl⟩:∃ j,nd=j+4:=⟨nd-4,by omega⟩
   refine Gr (j:=j+2) Hu f ?_ ?_ (by rw [B8 (by omega) (by omega)];omega) (by rw [B8 (by omega) (by omega)];omega) ?_
   ·simp (disch:=omega) only [tm4,Wk,Dm,Ik,A0s];omega
   ·simp (disch:=omega) only [tm4,Wk,Dm,Ik];omega
   intro h3 f3
   refine Gr (j:=j) Hu f3 ?_ ?_ (by rw [B8 (by omega) (by omega)];omega) (by rw [B8 (by omega) (by omega)];omega) ?_
   ·simp (disch:=omega) only [tm4,Zs,Dm,Ik,A0s];omega
   ·simp (disch:=omega) only [tm4,Zs,Dm,Ik];omega
   intro h4 f4
   refine ⟨j,v/100/100,?_,f4,by omega⟩
   rw [B8 (by omega) (by omega),Dm (by omega),td4,Dm (by omega)]
   simp only [B8p,B8w,and_true,true_and];omega
  ·exact ⟨nd,v,by rw [Dm (by omega)],f,by omega⟩
  ·rintro nd2 x2 hp2 ⟨n3,x3,hl3,f3,hn3⟩
   obtain ⟨rfl,rfl⟩:nd2=(n3:Int)/\x2=(x3:Int):=by simpa using hl3
   exact B4g hN f3 hn3 hK
end
theorem Oq{P:Program}{h:Heap}{l:List UInt8}{m:Nat}{ys:List Value}(hy:ys=yv l)(hm:m=l.length){K:Array Value->Heap->Prop}(x:K ys.toArray h):wpH P (Builtin.firstCells 1 m (.string (bs l))) K h:=by
 subst hm hy
 show K _ h
 have e:((bs l).extract 0 l.length).data.map (fun b=>B8y .u8 b.toNat)=(yv l).toArray:=by
  rw [O2]
  apply Array.toList_inj.1
  simp [bs,yv]
 rw [e];exact x
theorem Pn{P:Program}{t e e' ty:TypeId}{z:Value}{bytes:Nat}(st:SliceT P t e z 1 bytes){h g:Heap}{A:Option Addr}{n c:Nat}{xs:List Value}(p:Priv h g e' 1 A n c xs)
 {B:Option Addr} {m d:Nat} {ys:List Value} (hy:ys.length=m) (hc:SlV h B ys) (h1:∀ v∈ys,A1m v=true) (hb:(2*(n+m)+192)*bytes<=281474976710656) (hm:n+m<=9223372036854775807) {K:VP}
 (x1:n+m<=c->∀ h',Priv h' g e' 1 A (n+m) c (xs++ys)->K (.slice A (n+m) c) h') (x2:c<n+m->∀ A' c' h' g',g.le g'->Priv h' g' e 1 A' (n+m) c' (xs++ys)->K (.slice A' (n+m) c') h'):
 wpH P (B9o #[t,t] ty #[.slice A n c,.slice B m d]) K h:=by
 obtain ⟨i,hi,hz,hsz,hby⟩:=st.parts
 have hposx:=st.pos
 have hp1:=p.1
 rw [B8z] at hp1
 unfold B9o
 simp only [List.getElem?_toArray,B8l,B8n,C2,D7 st.und,K3 hi,E8,C05,if_false,Builtin.lenOf,hsz,Bool.not_false,if_true]
 by_cases hfit:n+m<=c
 ·simp only [hfit,if_true,C2]
  refine J3 (by omega) hc ?_
  rcases p.2.2 with ⟨hc0,hg⟩|⟨b,arr,hA,hgb,hh,hal,hat⟩
  ·have hn0:n=0:=by omega
   have hm0:m=0:=by omega
   subst hn0;subst hg
   have hys:ys=[]:=B8j (by omega)
   have hxs:xs=[]:=B8j (by omega)
   have fin:K (.slice A (0+m) c) h:=x1 hfit h ⟨by rw [hys,hxs,hm0];rfl,by omega,.inl ⟨hc0,rfl⟩⟩
   subst hys
   cases A with
   | none=>exact fin
   | some a=>exact fin
  ·subst hA
   simp only [C2,D3,C0d]
   rw [hh]
   rw [B8z] at hal hat ⊢
   refine I4 ys.toArray.toList n 0 arr ?_ (fun v hv=>h1 v (by simpa using hv)) ?_
   ·simp only
    omega
   ·simp only [E8,Nat.add_zero]
    refine x1 hfit _ ⟨by rw [B8i];omega,hfit,.inr ⟨b,_,rfl,hgb,rfl,?_,?_⟩⟩
    ·simp only [K4,B8i,B8o,B93,hal,hy];omega
    ·have hl1:(arr.take n).length=n:=by rw [B8o,hal];omega
     unfold K4
     have t1:(arr.take n).take (n+m)=arr.take n:=B8k (by rw [hl1];omega)
     have t2:ys.take m=ys:=B8k (by omega)
     rw [B8z,B8q,C0b,hl1,Nat.add_sub_cancel_left,C0b,t1,t2,hy,Nat.sub_self,List.take_zero,C00,hat]
 ·have hlt:c<n+m:=by omega
  simp only [hfit,if_false,C2,F5 hi,hby]
  have hnx:=Jy hlt
  have hnb:Builtin.nextslicecap (n+m) c*bytes<=281474976710656:=C0e (Nat.mul_le_mul_right _ hnx) hb
  rw [if_neg (by rintro ⟨h',_⟩;simp only [IntKind.max,IntKind.signed,IntKind.bits] at h';simp at h';omega)]
  simp only [C2,F5 hi,hby]
  rw [if_neg (by simp only [show (2^48:Nat)=281474976710656 from rfl];omega)]
  simp only [E8,C2]
  refine Fl rfl fun tt=>?_
  simp only [Cb,F5 hi]
  have hold:xs=[]\/∃ a,A=some a/\∀ j v,xs[j]? = some v->h.cell? (a.add j)=some v:=p.slV
  refine J3 p.1 hold ?_
  refine J3 (by omega) hc ?_
  simp only [N5 hi hz,N6]
  intro b hfree
  have hcut:∃ nc,(Question.appendCap (n+m) c e).cut tt=nc/\n+m<=nc:=⟨_,rfl,by simp only [Question.cut];omega⟩
  obtain ⟨nc,hnc,hge⟩:=hcut
  rw [hnc]
  have hgle:=p.le
  refine x2 hlt _ nc _ h hgle ⟨by rw [B8i];omega,hge,.inr ⟨b,xs++ys++(B9e z.cells (nc-(n+m))).toList,rfl,hfree,?_,?_,?_⟩⟩
  ·congr 1;simp
  ·have hzl:(B9e z.cells (nc-(n+m))).toList.length=nc-(n+m):=by simp [B9e,st.cells]
   rw [B8i,B8i,hp1,hy,hzl];omega
  ·rw [B8z,B98 (by rw [B8i];omega),B8k (by rw [B8i];omega)]
theorem A3c{P:Program}{t e e' ty t2:TypeId}{z:Value}{bytes:Nat}(st:SliceT P t e z 1 bytes)(hu:P.underlying t2=some .string){h g:Heap}{A:Option Addr}{n c:Nat}{xs:List Value}(p:Priv h g e' 1 A n c xs)
 {m:Nat} {l:List UInt8} {ys:List Value} (hly:ys=yv l) (hm0:m=l.length) (hy:ys.length=m) (h1:∀ v∈ys,A1m v=true) (hb:(2*(n+m)+192)*bytes<=281474976710656) (hm:n+m<=9223372036854775807) {K:VP}
 (x1:n+m<=c->∀ h',Priv h' g e' 1 A (n+m) c (xs++ys)->K (.slice A (n+m) c) h') (x2:c<n+m->∀ A' c' h' g',g.le g'->Priv h' g' e 1 A' (n+m) c' (xs++ys)->K (.slice A' (n+m) c') h'):
 wpH P (B9o #[t,t2] ty #[.slice A n c,.string (bs l)]) K h:=by
 obtain ⟨i,hi,hz,hsz,hby⟩:=st.parts
 have hposx:=st.pos
 have hp1:=p.1
 rw [B8z] at hp1
 unfold B9o
 simp only [List.getElem?_toArray,B8l,B8n,C2,D7 st.und,D7 hu,K3 hi,E8,C05,if_false,Builtin.lenOf,hsz,Bool.not_false,if_true,O6,<- hm0]
 by_cases hfit:n+m<=c
 ·simp only [hfit,if_true,C2]
  refine Oq hly hm0 ?_
  rcases p.2.2 with ⟨hc0,hg⟩|⟨b,arr,hA,hgb,hh,hal,hat⟩
  ·have hn0:n=0:=by omega
   have hm0:m=0:=by omega
   subst hn0;subst hg
   have hys:ys=[]:=B8j (by omega)
   have hxs:xs=[]:=B8j (by omega)
   have fin:K (.slice A (0+m) c) h:=x1 hfit h ⟨by rw [hys,hxs,hm0];rfl,by omega,.inl ⟨hc0,rfl⟩⟩
   subst hys
   cases A with
   | none=>exact fin
   | some a=>exact fin
  ·subst hA
   simp only [C2,D3,C0d]
   rw [hh]
   rw [B8z] at hal hat ⊢
   refine I4 ys.toArray.toList n 0 arr ?_ (fun v hv=>h1 v (by simpa using hv)) ?_
   ·simp only
    omega
   ·simp only [E8,Nat.add_zero]
    refine x1 hfit _ ⟨by rw [B8i];omega,hfit,.inr ⟨b,_,rfl,hgb,rfl,?_,?_⟩⟩
    ·simp only [K4,B8i,B8o,B93,hal,hy];omega
    ·have hl1:(arr.take n).length=n:=by rw [B8o,hal];omega
     unfold K4
     have t1:(arr.take n).take (n+m)=arr.take n:=B8k (by rw [hl1];omega)
     have t2:ys.take m=ys:=B8k (by omega)
     rw [B8z,B8q,C0b,hl1,Nat.add_sub_cancel_left,C0b,t1,t2,hy,Nat.sub_self,List.take_zero,C00,hat]
 ·have hlt:c<n+m:=by omega
  simp only [hfit,if_false,C2,F5 hi,hby]
  have hnx:=Jy hlt
  have hnb:Builtin.nextslicecap (n+m) c*bytes<=281474976710656:=C0e (Nat.mul_le_mul_right _ hnx) hb
  rw [if_neg (by rintro ⟨h',_⟩;simp only [IntKind.max,IntKind.signed,IntKind.bits] at h';simp at h';omega)]
  simp only [C2,F5 hi,hby]
  rw [if_neg (by simp only [show (2^48:Nat)=281474976710656 from rfl];omega)]
  simp only [E8,C2]
  refine Fl rfl fun tt=>?_
  simp only [Cb,F5 hi]
  have hold:xs=[]\/∃ a,A=some a/\∀ j v,xs[j]? = some v->h.cell? (a.add j)=some v:=p.slV
  refine J3 p.1 hold ?_
  refine Oq hly hm0 ?_
  simp only [N5 hi hz,N6]
  intro b hfree
  have hcut:∃ nc,(Question.appendCap (n+m) c e).cut tt=nc/\n+m<=nc:=⟨_,rfl,by simp only [Question.cut];omega⟩
  obtain ⟨nc,hnc,hge⟩:=hcut
  rw [hnc]
  have hgle:=p.le
  refine x2 hlt _ nc _ h hgle ⟨by rw [B8i];omega,hge,.inr ⟨b,xs++ys++(B9e z.cells (nc-(n+m))).toList,rfl,hfree,?_,?_,?_⟩⟩
  ·congr 1;simp
  ·have hzl:(B9e z.cells (nc-(n+m))).toList.length=nc-(n+m):=by simp [B9e,st.cells]
   rw [B8i,B8i,hp1,hy,hzl];omega
  ·rw [B8z,B98 (by rw [B8i];omega),B8k (by rw [B8i];omega)]
theorem Tw(l:List UInt8):∀ v∈yv l,A1m v=true:=by
 intro v hv
 simp only [yv,List.mem_map] at hv
 obtain ⟨c,_,rfl⟩:=hv
 rfl
theorem An{P:Program}{t:TypeId}{z v:Value}(hz:(P.info? t).map (fun i=>i.zero)=some (some z)){K:VP}{h:Heap}(x:∀ b,h b=none->K (.pointer (some ⟨b,0,none⟩)) (h.put b (.cells z.cells t))):wpH P (Instr.alloc t true v) K h:=by
 cases hi:P.info? t with
 | none=>rw [hi] at hz;cases hz
 | some i=>
  rw [hi] at hz
  simp only [Option.map_some,C0s] at hz
  unfold Instr.alloc
  simp only [C2,N5 hi hz]
  unfold newVar
  simp only [N6,E8]
  exact x
theorem A22:(prog.info? Nq).map (fun i=>i.zero)=some (some (.agg (B9p 24 (.int .u8 0)))):=by kernel_rfl
def Gp(h:Heap):Prop:=∀ k,k<20->h.cell? (Addr.add ⟨2,0,none⟩ (k*1))=some (U ((10^k:Nat):Int))
theorem Gp.mono{h h':Heap}(g:Gp h)(l:h.le h'):Gp h':=fun k hk=>C0 l (g k hk)
section
variable {h g:Heap} {K:VP}
theorem Rq{i:Nat}(hi:i<100)(hK:K (.string (bs (L6 i))) h):FCall prog Nf #[I i] h K:=by
 refine A7l _ ?_
 unfold B1d
 have key:∀ i:Nat,i<100->(i<10->Ua.extract i (i+1)=bs (L6 i))/\(¬ i<10->G1.extract (2*i) (2*i+2)=bs (L6 i)):=by
  intro i hi
  have hd:L6 i=if i<10 then [dch i] else [dch (i/10),dch (i%10)]:=by
   split
   ·by_cases h0:i=0
    ·subst h0;rfl
    ·rw [X8 h0,Z6 h0,show i/10=0 by omega,K0,show i%10=i by omega];rfl
   ·rw [X8 (by omega),Z6 (by omega),Z6 (by omega),show i/10/10=0 by omega,K0,show i/10%10=i/10 by omega];rfl
  rw [hd]
  revert i
  decide +kernel
 obtain ⟨k1,k2⟩:=key i hi
 refine B7 (fun h1=>?_) (fun h1=>?_)
 ·have e1:B5 ((i:Int)+1)=((i+1:Nat):Int):=by rw [B8 (by omega) (by omega)];omega
  rw [e1,B8g,B8g,k1 (by omega)]
  exact ⟨⟨by omega,by show _<=((36:Nat):Int);omega⟩,⟨by omega,by omega⟩,hK⟩
 ·have e1:B5 ((i:Int)*2)=((2*i:Nat):Int):=by rw [B8 (by omega) (by omega)];omega
  have e2:B5 (((2*i:Nat):Int)+2)=((2*i+2:Nat):Int):=by rw [B8 (by omega) (by omega)];omega
  rw [e1,e2,B8g,B8g,k2 (by omega)]
  exact ⟨⟨by omega,by show _<=((200:Nat):Int);omega⟩,⟨by omega,by omega⟩,hK⟩
theorem Aw{d:Nat}(gp:Gp h)(h0:d≠0)(hd:d<18446744073709551616)(hK:K (I ((dd d).length:Int)) h):FCall prog U3 #[U (d:Int)] h K:=by
 refine Vk _ ?_
 unfold Sn
 have hb:O7 d<=64:=Hj hd
 obtain ⟨_,_,hn⟩:=B0i (O7 d) (by omega)
 refine A1o hd ⟨_,rfl,Vl _ ?_⟩
 unfold So
 have e1:C0r (B5 ((O7 d:Int)*78913)) (2^(min ((18:Int)).toNat 64))=((ndg (O7 d):Nat):Int):=by
  rw [show (2:Int)^(min ((18:Int)).toNat 64)=262144 by decide,Int.fdiv_eq_ediv_of_nonneg _ (by decide),B8 (by omega) (by omega)]
  unfold ndg;omega
 rw [e1]
 refine ⟨_,rfl,⟨by omega,by omega⟩,_,by rw [B8g];exact gp _ (by omega),A7m _ ?_⟩
 unfold B1e
 rw [B4c h0 hd] at hK
 refine B7 (fun h1=>⟨_,rfl,?_⟩) (fun h1=>⟨_,rfl,?_⟩)
 ·rw [if_pos (by omega)] at hK
  rw [B8 (by omega) (by omega)]
  exact hK
 ·rw [if_neg (by omega)] at hK
  rw [B8 (by omega) (by omega)]
  exact hK
theorem Z8{e':TypeId}{A:Option Addr}{n c i:Nat}{l:List UInt8}(gp:Gp h)(p:Priv h g e' 1 A n c (yv l))(hi:i<18446744073709551616)(hn:n<=1000000000000)
 (hK:∀ A' c' e2 h' g',g.le g'->Priv h' g' e2 1 A' (n+(L6 i).length) c' (yv (l++L6 i))->(n+(L6 i).length<=c->A'=A/\c'=c/\e2=e')->(e'=F9->e2=F9)->K (.slice A' (n+(L6 i).length:Nat) c') h'):FCall prog R1 #[.slice A n c,U (i:Int),I 10] h K:=by
 refine Re _ _ _ _ _ ?_
 unfold Qe
 refine D9 (fun _=>?_) (fun e=>absurd rfl e)
 have hdl:(L6 i).length<=20:=(Iy (by decide)).2 (by show i<10^20;omega)
 refine B7 (fun h1=>?_) (fun h1=>?_)
 ·rw [B8 (by omega) (by omega)]
  refine Rq (by omega) ⟨_,rfl,?_⟩
  refine A3c Dv R7 p (l:=L6 i) rfl rfl (Dq _) (Tw _) (by omega) (by omega) ?_ ?_
  ·intro hf h' p'
   rw [<- T6] at p'
   exact ⟨_,_,_,rfl,hK _ _ _ _ _ (B4 _) p' (fun _=>⟨rfl,rfl,rfl⟩) id⟩
  ·intro hf A' c' h' g' lg p'
   rw [<- T6] at p'
   exact ⟨_,_,_,rfl,hK _ _ _ _ _ lg p' (fun e=>by omega) (fun _=>rfl)⟩
 ·refine An A22 ?_
  intro b hb
  have hz:(Value.agg (B9p 24 (.int .u8 0))).cells=((B8h 24 (0:Int)).map (B8y .u8)).toArray:=by rfl
  rw [hz]
  have w0:Win .u8 (h.put b (.cells ((B8h 24 (0:Int)).map (B8y .u8)).toArray Nq)) h b Nq (some ⟨b,0,none⟩) [] (B8h 24 (0:Int)) []:=⟨hb,by simp,.inr rfl⟩
  generalize (h.put b (.cells ((B8h 24 (0:Int)).map (B8y .u8)).toArray Nq))=h1' at *
  refine ⟨_,rfl,Aw (gp.mono w0.le) (by omega) hi ⟨_,rfl,?_⟩⟩
  have hdd:L6 i=dd i:=X8 (by omega)
  rw [hdd] at hdl hK
  refine ⟨⟨by omega,by omega⟩,?_⟩
  rw [B8g,B9i]
  have w1:=w0.sub (l:=0) (m:=(dd i).length) (c:=24) (by omega) (by simp;omega) (by simp)
  have hw1:((B8h 24 (0:Int)).drop 0).take ((dd i).length-0)=B8h (dd i).length 0:=by
   rw [B9g,C0n,B9i,B8s (by omega)]
  rw [hw1] at w1
  have hlt:i<10^(dd i).length:=P0.1 (B9b _)
  refine S5 w1 (by simp) (by omega) hlt hi ?_
  intro h2 w2
  refine ⟨rfl,⟨by omega,by omega⟩,?_⟩
  have hpd:pad (dd i).length i=dd i:=by simp [pad]
  rw [hpd] at w2
  have hs:SlV h2 (J1 (some ⟨b,0,none⟩) 24 0 1) (yv (dd i)):=by
   have:=w2.sl
   unfold SlI at this
   rw [B3v] at this
   exact this
  have hh2:=w2.eq
  obtain ⟨o,ho⟩:∃ o,h2=h.put b o:=⟨_,hh2⟩
  subst ho
  have p2:=p.put hb o
  have lgg:g.le (g.put b o):=by
   intro k o' hk
   have hne:k≠b:=by
    rintro rfl
    rw [p.le k o' hk] at hb;cases hb
   rw [B6 _ _ hne];exact hk
  refine Pn Dv p2 (Dq _) hs (Tw _) (by omega) (by omega) ?_ ?_
  ·intro hf h' p'
   rw [<- T6] at p'
   exact ⟨_,_,_,rfl,hK _ _ _ _ _ lgg p' (fun _=>⟨rfl,rfl,rfl⟩) id⟩
  ·intro hf A' c' h' g' lg p'
   rw [<- T6] at p'
   exact ⟨_,_,_,rfl,hK _ _ _ _ _ (B0 lgg lg) p' (fun e=>by omega) (fun _=>rfl)⟩
end
structure Ext (g:Heap) (e':TypeId) (A:Option Addr) (n c:Nat) (l t:List UInt8) (A':Option Addr) (n' c':Nat) (e2:TypeId) (g' h':Heap):Prop where
 le:g.le g'
 priv:Priv h' g' e2 1 A' n' c' (yv (l++t))
 len:n'=n+t.length
 fit:n+t.length<=c->A'=A/\c'=c/\e2=e'
 tag:e'=F9->e2=F9
theorem Ext.trans{g g1 g2 h1 h2:Heap}{e' e1 e2:TypeId}{A A1 A2:Option Addr}{n c n1 c1 n2 c2:Nat}{l t s:List UInt8}(x:Ext g e' A n c l t A1 n1 c1 e1 g1 h1)(y:Ext g1 e1 A1 n1 c1 (l++t) s A2 n2 c2 e2 g2 h2):Ext g e' A n c l (t++s) A2 n2 c2 e2 g2 h2:=by
 refine ⟨B0 x.le y.le,?_,?_,?_,fun e=>y.tag (x.tag e)⟩
 ·have:=y.priv;rwa [B8q] at this
 ·rw [y.len,x.len,B8i];omega
 ·intro hf
  rw [B8i] at hf
  obtain ⟨rfl,rfl,rfl⟩:=x.fit (by omega)
  have hx:=x.len
  exact y.fit (by omega)
section
variable {h g:Heap} {K:VP} {A:Option Addr} {n c:Nat} {e':TypeId} {l:List UInt8}
theorem Dg{i:Nat}(gp:Gp h)(p:Priv h g e' 1 A n c (yv l))(hi:i<18446744073709551616)(hn:n<=1000000000000)
 (hK:∀ A' n' c' e2 g' h',Ext g e' A n c l (L6 i) A' n' c' e2 g' h'->K (.slice A' n' c') h'):FCall prog Cw #[.slice A n c,U (i:Int),I 10] h K:=by
 refine Ri _ _ _ _ _ ?_
 unfold Qm
 refine Z8 gp p hi hn ?_
 intro A' c' e2 h' g' l1 p1 f1 b1
 exact ⟨_,_,_,rfl,hK _ _ _ _ _ _ ⟨l1,p1,rfl,f1,b1⟩⟩
theorem Cn{ch:UInt8}{v:Int}(hv:v=(ch.toNat:Int))(p:Priv h g e' 1 A n c (yv l))(hn:n<=1000000000000){KK:Option Addr->Nat->Nat->Heap->Prop}
 (x:∀ A' n' c' e2 g' h',Ext g e' A n c l [ch] A' n' c' e2 g' h'->KK A' n' c' h'):
 wpH prog (Instr.buildSlice Ds 1 #[(0,Y v)]) (fun v1 hp1=>∃ (A1:Option Addr) (n1 c1:Nat),v1= .slice A1 n1 c1/\wpH prog (B9o #[Ds,Ds] Ds #[.slice A n c,.slice A1 n1 c1]) (fun v2 hp2=>∃ (A2:Option Addr) (n2 c2:Nat),v2= .slice A2 n2 c2/\KK A2 n2 c2 hp2) hp1) h:=by
 subst hv
 refine Ax Dv rfl ?_
 intro b hfree
 refine ⟨_,_,_,rfl,?_⟩
 have p':=p.put hfree (.cells #[Y (ch.toNat:Int)] F9)
 have lgg:g.le (g.put b (.cells #[Y (ch.toNat:Int)] F9)):=by
  intro k o' hk
  have hne:k≠b:=by
   rintro rfl
   rw [p.le k o' hk] at hfree;cases hfree
  rw [B6 _ _ hne];exact hk
 have hs:SlV (h.put b (.cells #[Y (ch.toNat:Int)] F9)) (some ⟨b,0,none⟩) (yv [ch]):=by
  refine .inr ⟨_,rfl,fun j u hj=>?_⟩
  rw [D3,D6]
  match j with
  | 0=>simpa [yv] using hj
  | j+1=>simp [yv] at hj
 refine Pn Dv p' (m:=1) (ys:=yv [ch]) rfl hs (Tw _) (by omega) (by omega) ?_ ?_
 ·intro hf h' p2
  rw [<- T6] at p2
  exact ⟨_,_,_,rfl,x _ _ _ _ _ _ ⟨lgg,p2,rfl,fun _=>⟨rfl,rfl,rfl⟩,id⟩⟩
 ·intro hf A' c' h' g' lg p2
  rw [<- T6] at p2
  exact ⟨_,_,_,rfl,x _ _ _ _ _ _ ⟨B0 lgg lg,p2,rfl,fun e=>by simp at e;omega,fun _=>rfl⟩⟩
theorem Tg{i:Int}(h:i<0):Kz i=[45]++L6 i.natAbs:=by unfold Kz;rw [if_pos h];rfl
theorem Hw{i:Int}(h:¬ i<0):Kz i=L6 i.natAbs:=by unfold Kz;rw [if_neg h]
theorem Gg{i:Int}(gp:Gp g)(p:Priv h g e' 1 A n c (yv l))(h1: -9223372036854775808<=i)(h2:i<9223372036854775808)(hn:n<=100000000000)
 (hK:∀ A' n' c' e2 g' h',Ext g e' A n c l (Kz i) A' n' c' e2 g' h'->K (.slice A' n' c') h'):FCall prog Al #[.slice A n c,I i,I 10] h K:=by
 refine Vx _ _ _ _ _ ?_
 unfold Tc
 refine Vp _ _ _ _ _ ?_
 unfold Ss
 refine B7 (fun hi=>?_) (fun hi=>?_)
 ·rw [Tg hi] at hK
  refine Cn (ch:=45) rfl p (by omega) ?_
  intro A1 n1 c1 e1 g1 hp1 x1
  have e:C3 (0-C3 i)=((i.natAbs:Nat):Int):=by rw [F1,F1];omega
  rw [e]
  refine Z8 (gp.mono (B0 x1.le x1.priv.le)) x1.priv (by omega) (by have:=x1.len;simp at this;omega) ?_
  intro A2 c2 e2 hp2 g2 l2 p2 f2 b2
  exact ⟨_,_,_,rfl,_,_,_,rfl,hK _ _ _ _ _ _ (x1.trans ⟨l2,p2,rfl,f2,b2⟩)⟩
 ·rw [Hw hi] at hK
  have e:C3 i=((i.natAbs:Nat):Int):=by rw [F1];omega
  rw [e]
  refine Z8 (gp.mono p.le) p (by omega) (by omega) ?_
  intro A2 c2 e2 hp2 g2 l2 p2 f2 b2
  exact ⟨_,_,_,rfl,_,_,_,rfl,hK _ _ _ _ _ _ ⟨l2,p2,rfl,f2,b2⟩⟩
theorem Wc{b:Nat}{e:TypeId}{B:Option Addr}{pre post:List Value}{s:List UInt8}(w:Win .u8 h g b e B pre (zb s) post):SlV h B (yv s):=by
 have:=w.sl
 unfold SlI at this
 rw [B3v] at this
 exact this
theorem Ge{i:Int}(gp:Gp h)(h1: -9223372036854775808<=i)(h2:i<9223372036854775808)(hK:K (.string (bs (Kz i))) h):FCall prog Ak #[I i,I 10] h K:=by
 refine FCall.pure (Vv _ _ ?_)
 unfold Sy
 refine Vn _ _ ?_
 unfold Sq
 refine D9 (fun _=>?_) (fun e=>absurd rfl e)
 refine ⟨fun L hp=>L=[.bool (decide (0<=i/\i<100))]/\hp=h,B7 (fun h3=>⟨by simp [h3],rfl⟩) (fun h3=>⟨by simp [h3],rfl⟩),?_⟩
 rintro t17 hp ⟨hL,rfl⟩
 obtain rfl:t17=decide (0<=i/\i<100):=by simpa using hL
 refine B7 (fun h3=>?_) (fun h3=>?_)
 ·obtain ⟨k,rfl⟩:∃ k:Nat,i=k:=⟨i.toNat,by omega⟩
  refine Rq (by omega) ⟨_,rfl,⟨_,rfl,B4 _,?_⟩⟩
  rw [Hw (by omega)] at hK
  exact hK
 ·refine An A22 ?_
  intro b hb
  have hz:(Value.agg (B9p 24 (.int .u8 0))).cells=((B8h 24 (0:Int)).map (B8y .u8)).toArray:=by rfl
  rw [hz]
  have w0:Win .u8 (hp.put b (.cells ((B8h 24 (0:Int)).map (B8y .u8)).toArray Nq)) hp b Nq (some ⟨b,0,none⟩) [] (B8h 24 (0:Int)) []:=⟨hb,by simp,.inr rfl⟩
  generalize (hp.put b (.cells ((B8h 24 (0:Int)).map (B8y .u8)).toArray Nq))=hp1 at *
  refine ⟨_,rfl,?_⟩
  obtain ⟨u,hu⟩:∃ u:Nat,u=i.natAbs:=⟨_,rfl⟩
  have hu0:u≠0:=by omega
  have hd:L6 u=dd u:=X8 hu0
  have hdl:(dd u).length<=20:=P0.2 (by show u<10^20;omega)
  have e1:B5 (1+(((dd u).length:Nat):Int))=((1+(dd u).length:Nat):Int):=by rw [B8 (by omega) (by omega)];omega
  have w1:=w0.sub (l:=1) (m:=1+(dd u).length) (c:=24) (by omega) (by simp;omega) (by simp)
  have hw1:((B8h 24 (0:Int)).drop 1).take (1+(dd u).length-1)=B8h (dd u).length 0:=by
   rw [List.drop_replicate,C0n,B8s (by omega)];congr 1;omega
  rw [hw1] at w1
  have hlt:u<10^(dd u).length:=P0.1 (B9b _)
  have hpd:pad (dd u).length u=dd u:=by simp [pad]
  have hn1:1+(dd u).length-1=(dd u).length:=by omega
  refine B7 (fun hi=>?_) (fun hi=>?_)
  ·rw [Tg hi,<- hu,hd] at hK
   have e:C3 (0-C3 i)=(u:Int):=by rw [F1,F1];omega
   rw [e]
   refine Aw (gp.mono w0.le) hu0 (by omega) ⟨_,rfl,?_⟩
   rw [e1,B8g]
   refine ⟨⟨by omega,by omega⟩,⟨by omega,by omega⟩,?_⟩
   rw [show ((1:Int)).toNat=1 from rfl,hn1]
   refine S5 w1 (by simp) (by omega) hlt (by omega) ?_
   intro hp2 w2
   rw [hpd] at w2
   refine ⟨rfl,B7 (fun _=>?_) (fun h4=>absurd hi h4)⟩
   have w3:=w0.whole (l:=1) (m:=1+(dd u).length) (by omega) (by simp;omega) (by rw [Do];omega) w2
   refine ⟨⟨by omega,by omega⟩,?_⟩
   rw [show ((0:Int)).toNat=0 from rfl]
   refine w3.storeN Hu rfl (by simp) ?_
   intro hp4 w4
   refine ⟨⟨by omega,by omega⟩,?_⟩
   have w5:=w4.sub (l:=0) (m:=1+(dd u).length) (c:=24) (by omega) (by simp [Do];omega) (by simp [Do];omega)
   have e5:((((B8h 24 (0:Int)).take 1++zb (dd u)++(B8h 24 (0:Int)).drop (1+(dd u).length)).set 0 45).drop 0).take (1+(dd u).length-0)=zb ([45]++dd u):=by
    rw [B9g,C0n,show min 1 24=1 from rfl,show B8h 1 (0:Int)=[0] from rfl,B8q,List.singleton_append,List.set_cons_zero,B9i,Nat.add_comm 1,List.take_succ_cons,List.take_left' (Do _)]
    rfl
   rw [e5] at w5
   refine Hx Dv.und Bi R7 (Wc w5) (by simp;omega) ⟨_,rfl,_,rfl,?_,hK⟩
   exact w4.le
  ·rw [Hw hi,<- hu,hd] at hK
   have e:C3 i=(u:Int):=by rw [F1];omega
   rw [e]
   refine Aw (gp.mono w0.le) hu0 (by omega) ⟨_,rfl,?_⟩
   rw [e1,B8g]
   refine ⟨⟨by omega,by omega⟩,⟨by omega,by omega⟩,?_⟩
   rw [show ((1:Int)).toNat=1 from rfl,hn1]
   refine S5 w1 (by simp) (by omega) hlt (by omega) ?_
   intro hp2 w2
   rw [hpd] at w2
   refine ⟨rfl,B7 (fun h4=>absurd h4 hi) (fun _=>?_)⟩
   refine ⟨⟨by omega,by omega⟩,⟨by omega,by omega⟩,?_⟩
   exact Hx Dv.und Bi R7 (Wc w2) rfl ⟨_,rfl,_,rfl,w2.le,hK⟩
theorem Qv{s q:List UInt8}(hK:K (.tuple #[.string (bs (if q <+: s then s.drop q.length else s)),.bool (decide (q <+: s))]) h):FCall prog Eo #[.string (bs s),.string (bs q)] h K:=by
 refine Vw _ _ ?_
 unfold Ta
 refine Vo _ _ ?_
 unfold Sr
 have hp:FCall prog Ek #[.string (bs s),.string (bs q)] h (fun r hp=>r= .bool (decide (q <+: s))/\hp=h):=by
  refine Vm _ _ ?_
  unfold Sp
  simp only [O6]
  refine B7 (fun h1=>?_) (fun h1=>?_)
  ·refine ⟨⟨by omega,by omega⟩,?_,trivial⟩
   rw [B8g,O2,Pk]
   congr 1
   rw [decide_eq_decide,B9g,B9i,List.prefix_iff_eq_take]
   exact eq_comm
  ·refine ⟨?_,trivial⟩
   congr 1
   symm
   rw [decide_eq_false_iff_not]
   intro hq
   have:=hq.length_le
   omega
 refine hp.mono ?_
 rintro r hp2 ⟨rfl,rfl⟩
 refine ⟨_,rfl,R6 (B7 (fun h1=>?_) (fun h1=>?_))⟩
 ·rw [if_pos h1,decide_eq_true h1] at hK
  have:=h1.length_le
  simp only [O6]
  refine ⟨⟨by omega,by omega⟩,_,_,rfl,?_⟩
  rw [B8g,O2,B8k (by rw [B93];omega)]
  exact hK
 ·rw [if_neg h1,decide_eq_false h1] at hK
  exact ⟨_,_,rfl,hK⟩
end
abbrev cB:Int:=10000000000000000000
section
variable {h g:Heap} {K:VP} {A B:Option Addr} {ac bc:Nat}
theorem B5c{Invv:LP}{muv:LN}{WA CA:Option Addr}{wn wc cn cc:Nat}{us:List Int}{hp1 g1:Heap}(p:Pw hp1 g1 WA wn wc us)(hne:us≠[])(hwn:wn=us.length)(du:Dig b64 us)(hl:wn<=100000000)
 (hK:∀ (ws:List Int) (m:Nat) (r:Int) (hp2:Heap),Pw hp2 g1 WA m wc (ws.take m)->m=(ws.take m).length->m<=wn->Norm (ws.take m)->Dig b64 (ws.take m)->val b64 us=val b64 (ws.take m)*cB+r->(0<=r/\r<cB)->
  wpH prog (Instr.buildSlice Q1 1 #[(0,U r)]) (fun v hp6=>∃ (t44A:Option Addr) (t44n:Nat) (t44c:Nat),v= .slice t44A t44n t44c/\wpH prog (B9o #[Q1,Q1] Q1 #[.slice CA cn cc,.slice t44A t44n t44c]) (fun v1 hp7=>∃ (t45A:Option Addr) (t45n:Nat) (t45c:Nat),v1= .slice t45A t45n t45c/\Invv [.slice WA m wc,.slice t45A t45n t45c] hp7/\muv [.slice WA m wc,.slice t45A t45n t45c] hp7<muv [.slice WA wn wc,.slice CA cn cc] hp1) hp6) hp2):
 Z9 prog Invv muv WA wn wc CA cn cc hp1:=by
 obtain ⟨b,post,w0,hc⟩:=Ca p hne
 unfold Z9
 refine ⟨fun s hp=>∃ (k:Nat) (r:Int) (ws:List Int),s=[U r,I ((k:Int)-1)]/\k<=wn/\(0<=r/\r<cB)/\ws.length=us.length/\Dig b64 ws/\Win .u64 hp g1 b B9 WA [] ws post/\ws.take k=us.take k/\val b64 (us.drop k)=val b64 (ws.drop k)*cB+r,fun s _=>(iAt s 1+1).toNat,⟨wn,0,us,by rw [B8 (by omega) (by omega)],by omega,by decide,rfl,du,w0,rfl,by rw [B9q (by omega)];simp [val]⟩,?_⟩
 rintro rest i hp2 ⟨k,r,ws,hs,hk,hr,hwl,dw,w,htk,hv⟩
 obtain ⟨rfl,rfl⟩:rest=r/\i=(k:Int)-1:=by simpa using hs
 refine B7 (fun h1=>?_) (fun h1=>?_)
 ·obtain ⟨j,rfl⟩:∃ j,k=j+1:=⟨k-1,by omega⟩
  have e:((j+1:Nat):Int)-1=(j:Int):=by omega
  rw [e]
  have gx:=K5 dw j
  refine w.sl.load (by omega) (by omega) (by omega) ?_
  rw [B8g]
  refine Nl (y:=10000000000000000000) hr gx (by decide) ⟨_,_,rfl,?_⟩
  have hu:us.getD j 0=ws.getD j 0:=by
   have h3:(ws.take (j+1)).getD j 0=(us.take (j+1)).getD j 0:=by rw [htk]
   simpa [C0q,List.getElem?_take] using h3.symm
  generalize hx:ws.getD j 0=x at *
  have hr':0<=rest/\rest<10000000000000000000:=hr
  have hT:0<=rest*18446744073709551616+x:=by omega
  have hq:0<=(rest*18446744073709551616+x)/10000000000000000000/\(rest*18446744073709551616+x)/10000000000000000000<18446744073709551616:=by omega
  obtain ⟨a,ha,_⟩:=SlV.at w.sl (i:=j) (by simp;omega)
  refine ⟨a,ha,by omega,by omega,w.storeN D8 ha (by omega) ?_⟩
  intro h4 w4
  rw [B8 (by omega) (by omega)]
  refine ⟨⟨j,_,_,rfl,by omega,by show _/\_<(10000000000000000000:Int);omega,by simpa using hwl,dw.set hq,w4,?_,?_⟩,by simp only [iAt,B8l,B8n];omega⟩
  ·rw [List.take_set_of_le (by omega)]
   have h3:=congrArg (List.take j) htk
   rw [List.take_take,List.take_take,B8s (by omega)] at h3
   exact h3
  ·rw [Cz (by omega),Ms b64 (by omega),hv,hu]
   have:=B92 (rest*18446744073709551616+x) 10000000000000000000
   simp only [val]
   generalize (rest*18446744073709551616+x)/10000000000000000000=q at *
   generalize (rest*18446744073709551616+x)%10000000000000000000=s at *
   grind
 ·obtain rfl:k=0:=by omega
  rw [B9g,B9g] at hv
  rw [show wn=ws.length by omega] at hK ⊢
  refine Bf w.sl (by omega) (by omega) ?_
  intro m hm hN hve
  refine ⟨_,_,_,rfl,?_⟩
  have hne2:ws≠[]:=by intro e0;apply hne;exact B8j (by rw [<- hwl,e0];rfl)
  exact hK ws m rest hp2 (w.priv hne2 (by omega) hm) (by rw [B8o];omega) hm hN (dw.take m) (by rw [hve];exact hv) hr
end
def nv:List Nat->Nat
 | []=>0
 | c::r=>c+10^19*nv r
theorem A5c(ns:List Nat)(c:Nat):((nv (ns++[c]):Nat):Int)=(nv ns:Int)+cB^ns.length*(c:Int):=by
 induction ns with
 | nil=>simp [nv]
 | cons d r ih=>
  have e:((10^19:Nat):Int)=cB:=by decide
  simp only [List.cons_append,nv,List.length_cons,B91,C0h,B8r,ih,e]
  grind
theorem B6e{ns:List Nat}(h:∀ c∈ns,c<10^19):nv ns<10^(19*ns.length):=by
 induction ns with
 | nil=>simp [nv]
 | cons d r ih=>
  have h1:=h d (by simp)
  have h2:=ih fun c hc=>h c (by simp [hc])
  simp only [nv,List.length_cons]
  rw [show 19*(r.length+1)=19+19*r.length by omega,C08]
  have:=Nat.mul_le_mul_left (10^19) (show nv r+1<=10^(19*r.length) by omega)
  rw [Nat.mul_add] at this;omega
theorem B6d{ns:List Nat}(hne:ns≠[])(h:ns.getLast? ≠ some 0):nv ns≠0:=by
 induction ns with
 | nil=>exact absurd rfl hne
 | cons d r ih=>
  cases r with
  | nil=>simp at h;simp [nv];exact h
  | cons e s=>
   have:=ih (by simp) (by simpa [List.getLast?_cons_cons] using h)
   simp only [nv] at this ⊢
   have h3:0<10^19*(e+10^19*nv s):=Nat.mul_pos (by decide) (by omega)
   omega
theorem A93{c:Nat}:B8h (19-(L6 c).length) 48++L6 c=pad 19 c:=by
 unfold L6 pad
 split
 ·rename_i h;subst h;rw [K0];rfl
 ·rfl
theorem A56{c w:Nat}(h:c≠0):B8h (w-(L6 c).length) 48++L6 c=pad w c:=by
 unfold L6 pad;rw [if_neg h]
theorem A2s{w n k:Nat}(h:n<10^k):(pad w n).length<=w+k:=by
 unfold pad
 have:=P0.2 h
 rw [B8i,B90];omega
def A3v(W:Nat)(ns:List Nat)(k:Nat):List UInt8:=if k<ns.length then pad (W-19*k) (nv (ns.drop k)) else []
theorem A8h{W:Nat}{ns:List Nat}(h:∀ c∈ns,c<10^19)(k:Nat):(A3v W ns k).length<=W+19*ns.length:=by
 unfold A3v
 split
 ·have:=A2s (w:=W-19*k) (B6e (ns:=ns.drop k) fun c hc=>h c (List.mem_of_mem_drop hc))
  rw [B93] at this;omega
 ·simp
theorem A4e{W:Nat}{ns:List Nat}(hb:∀ c∈ns,c<10^19)(ht:ns.getLast? ≠ some 0){j:Nat}(hj:j<ns.length):A3v W ns j=A3v W ns (j+1)++(B8h ((if j+1=ns.length then max (L6 ns[j]).length (W-19*j) else 19)-(L6 ns[j]).length) 48++L6 ns[j]):=by
 have e:ns.drop j=ns[j]::ns.drop (j+1):=C06 hj
 unfold A3v
 rw [if_pos hj,e]
 by_cases h:j+1=ns.length
 ·rw [if_neg (by omega),if_pos h,C0g,B9q (by omega)]
  have hc:ns[j]≠0:=by
   intro h0
   apply ht
   rw [C10,<- h,C04,B9j hj,h0]
  rw [show max (L6 ns[j]).length (W-19*j)-(L6 ns[j]).length=(W-19*j)-(L6 ns[j]).length by omega,A56 hc]
  simp [nv]
 ·rw [if_pos (by omega),if_neg h,A93]
  have hn:nv (ns.drop (j+1))≠0:=by
   apply B6d
   ·intro e0;have:=congrArg List.length e0;rw [B93] at this;simp at this;omega
   ·rw [List.getLast?_drop,if_neg (by omega)];exact ht
  have:=Xc (w:=W-19*j) (h:=nv (ns.drop (j+1))) (l:=ns[j]) (k:=19) (hb _ (C0v hj)) (.inl hn)
  rw [Nat.sub_sub] at this
  rw [show 19*(j+1)=19*j+19 by omega,<- this]
  congr 1
  simp only [nv];rw [C03];omega
theorem Priv.clear{h g:Heap}{e:TypeId}{A:Option Addr}{n c:Nat}{xs:List Value}(p:Priv h g e 1 A n c xs):Priv h g e 1 A 0 c []:=by
 obtain ⟨h1,h2,h3⟩:=p
 refine ⟨by simp,by omega,?_⟩
 rcases h3 with h3|⟨b,arr,a1,a2,a3,a4,a5⟩
 ·exact .inl h3
 ·exact .inr ⟨b,arr,a1,a2,a3,a4,by simp⟩
def nz(ns:List Nat):List Int:=ns.map fun (x:Nat)=>(x:Int)
def Bx(g:Heap)(eT:TypeId)(A:Option Addr)(n c:Nat)(l:List UInt8)(p:Addr)(CA:Option Addr)(ns:List Nat)(bl t:List UInt8)(tA:Option Addr)(tn tc:Nat)(hp:Heap):Prop:=
 ∃ e2 gA gB,Ext g eT A n c l t tA tn tc e2 gA hp/\Priv gA gB A4c 1 (some p) bl.length 20 (yv bl)/\g.le gB/\SlI .u64 gB CA (nz ns)
section
variable {h g:Heap} {K:VP} {A CA:Option Addr} {n c:Nat} {eT:TypeId} {l:List UInt8} {p:Addr} {ns:List Nat}
theorem A17{bl t s:List UInt8}{tA tA':Option Addr}{tn tc tn' tc':Nat}{e2 e3:TypeId}{gA gB g' hp hp':Heap}(x:Ext g eT A n c l t tA tn tc e2 gA hp)(q:Priv gA gB A4c 1 (some p) bl.length 20 (yv bl))(lg:g.le gB)(sc:SlI .u64 gB CA (nz ns))(y:Ext gA e2 tA tn tc (l++t) s tA' tn' tc' e3 g' hp'):Bx g eT A n c l p CA ns bl (t++s) tA' tn' tc' hp':=by
 obtain ⟨gB',l1,q'⟩:=q.after y.le
 exact ⟨e3,g',gB',x.trans y,q',B0 lg l1,sc.mono l1⟩
theorem A9p{Invv2:LP}{muv2:LN}{tA:Option Addr}{tn tc q:Nat}{first:Bool}{i1 size:Int}{bl t:List UInt8}{hp9 hp11:Heap}(x:Bx g eT A n c l p CA ns bl t tA tn tc hp11)(hq:B5 (size-((bl.length:Nat):Int))=(q:Int))(hb:n+t.length+q+bl.length<=100000000000)
 (hK:∀ tA' tn' tc' hp',Bx g eT A n c l p CA ns bl (t++(B8h q 48++bl)) tA' tn' tc' hp'->Invv2 [.slice tA' tn' tc',.bool false,I (B5 (i1-1))] hp'/\muv2 [.slice tA' tn' tc',.bool false,I (B5 (i1-1))] hp'<muv2 [.slice tA tn tc,.bool first,I i1] hp9):
 V4 prog Invv2 muv2 tA tn tc first i1 (some p) bl.length 20 size hp9 hp11:=by
 unfold V4
 rw [hq]
 refine ⟨fun s hp=>∃ (k:Nat) (tA:Option Addr) (tn tc:Nat),s=[.slice tA tn tc,I k]/\k<=q/\Bx g eT A n c l p CA ns bl (t++B8h k 48) tA tn tc hp,fun s _=>q-(iAt s 1).toNat,⟨0,tA,tn,tc,rfl,by omega,by simpa using x⟩,?_⟩
 rintro tA1 tn1 tc1 t71 hp12 ⟨k,tA2,tn2,tc2,hs,hk,e2,gA,gB,ex,pb,lg,sc⟩
 simp only [B8p,B8t,B8w,and_true,true_and] at hs
 obtain ⟨⟨rfl,rfl,rfl⟩,rfl⟩:=hs
 have hlen:=ex.len
 rw [B8i,B90] at hlen
 refine B7 (fun h1=>?_) (fun h1=>?_)
 ·refine Cn (ch:=48) rfl ex.priv (by omega) ?_
  intro A' n' c' e3 g' h' y
  rw [B8 (by omega) (by omega)]
  refine ⟨⟨k+1,_,_,_,rfl,by omega,?_⟩,by simp only [iAt,B8l,B8n];omega⟩
  have:=A17 ex pb lg sc y
  rwa [B8q,<- C0l] at this
 ·obtain rfl:k=q:=by omega
  refine ⟨fun s hp=>∃ (tA:Option Addr) (tn tc:Nat),s=[.slice tA tn tc]/\Bx g eT A n c l p CA ns bl (t++(B8h k 48++bl)) tA tn tc hp,?_,?_⟩
  ·refine Pn Dv ex.priv (Dq bl) (SlV.mono ex.priv.le pb.slV) (Tw _) (by omega) (by omega) ?_ ?_
   ·intro hf h' p'
    rw [<- T6] at p'
    refine ⟨_,_,_,rfl,_,_,_,rfl,?_⟩
    have:=A17 ex pb lg sc (s:=bl) ⟨B4 _,p',rfl,fun _=>⟨rfl,rfl,rfl⟩,id⟩
    rwa [B8q] at this
   ·intro hf A' c' h' g' lg' p'
    rw [<- T6] at p'
    refine ⟨_,_,_,rfl,_,_,_,rfl,?_⟩
    have:=A17 ex pb lg sc (s:=bl) ⟨lg',p',rfl,fun e=>by omega,fun _=>rfl⟩
    rwa [B8q] at this
  ·rintro tA3 tn3 tc3 hp16 ⟨tA4,tn4,tc4,hs,x4⟩
   simp only [B8p,B8t,and_true] at hs
   obtain ⟨rfl,rfl,rfl⟩:=hs
   exact hK _ _ _ _ x4
theorem A9n{W tn tc:Nat}{tA:Option Addr}{t:List UInt8}{e2:TypeId}{gA hp9:Heap}(x:Ext g eT A n c l t tA tn tc e2 gA hp9)(hW:W<=10000000000)(hb:tn<=10000000000)(hK:∀ A' n' c' e3 g' h',Ext g eT A n c l (t++B8h W 48) A' n' c' e3 g' h'->K (.slice A' n' c') h'):V3 prog (W:Int) K tA tn tc hp9:=by
 unfold V3
 refine ⟨fun s hp=>∃ (k:Nat) (tA:Option Addr) (tn' tc:Nat) (e3:TypeId) (g':Heap),s=[.slice tA tn' tc,I k]/\k<=W/\tn'=tn+k/\Ext g eT A n c l (t++B8h k 48) tA tn' tc e3 g' hp,fun s _=>W-(iAt s 1).toNat,⟨0,tA,tn,tc,e2,gA,rfl,by omega,rfl,by simpa using x⟩,?_⟩
 rintro tA1 tn1 tc1 t82 hp17 ⟨k,tA2,tn2,tc2,e3,g',hs,hk,htn,ex⟩
 simp only [B8p,B8t,B8w,and_true,true_and] at hs
 obtain ⟨⟨rfl,rfl,rfl⟩,rfl⟩:=hs
 refine B7 (fun h1=>?_) (fun h1=>?_)
 ·refine Cn (ch:=48) rfl ex.priv (by omega) ?_
  intro A' n' c' e4 g2 h' y
  rw [B8 (by omega) (by omega)]
  refine ⟨⟨k+1,_,_,_,e4,g2,rfl,by omega,?_,?_⟩,by simp only [iAt,B8l,B8n];omega⟩
  ·have:=y.len;simp at this;omega
  ·have:=ex.trans y
   rwa [B8q,<- C0l] at this
 ·obtain rfl:k=W:=by omega
  exact hK _ _ _ _ _ _ ex
theorem A9o{W cn:Nat}{tA:Option Addr}{tn tc:Nat}{hp8:Heap}{b:Nat}(gp:Gp g)(hp:p=⟨b,0,none⟩)(x:Bx g eT A n c l p CA ns [] [] tA tn tc hp8)(hcn:cn=ns.length)(hb:∀ c∈ns,c<10^19)(ht:ns.getLast? ≠ some 0)(hW:W<=1000000000)(hn:n<=1000000000)(hnl:ns.length<=1000000000)
 (hK:∀ A' n' c' e3 g' h',Ext g eT A n c l (pad W (nv ns)) A' n' c' e3 g' h'->K (.slice A' n' c') h'):V5 prog tA tn tc (W:Int) K CA cn p hp8:=by
 subst hcn
 have hcut:J1 (some p) 20 0 1=some p:=by rw [hp];rfl
 unfold V5
 refine ⟨fun s hp=>∃ (k:Nat) (tA:Option Addr) (tn tc:Nat) (bl:List UInt8),s=[.slice tA tn tc,.bool (decide (k=ns.length)),I ((k:Int)-1)]/\k<=ns.length/\Bx g eT A n c l p CA ns bl (A3v W ns k) tA tn tc hp,fun s _=>(iAt s 2+1).toNat,⟨ns.length,tA,tn,tc,[],by rw [B8 (by omega) (by omega)];simp,B9b _,by unfold A3v;rw [if_neg (by omega)];exact x⟩,?_⟩
 rintro tA1 tn1 tc1 first i1 hp9 ⟨k,tA2,tn2,tc2,bl,hs,hk,e2,gA,gB,ex,pb,lg,sc⟩
 simp only [B8p,B8t,B8w,Value.bool.injEq,and_true,true_and] at hs
 obtain ⟨⟨rfl,rfl,rfl⟩,rfl,rfl⟩:=hs
 have hlen:=ex.len
 have htl:=A8h (W:=W) hb k
 refine B7 (fun h1=>?_) (fun h1=>?_)
 ·obtain ⟨j,rfl⟩:∃ j,k=j+1:=⟨k-1,by omega⟩
  have e:((j+1:Nat):Int)-1=(j:Int):=by omega
  rw [e]
  have hj:j<ns.length:=by omega
  refine ⟨⟨by omega,by omega⟩,?_⟩
  refine (sc.mono (B0 pb.le ex.priv.le)).load (by simp [nz]) (by omega) (by simp;omega) ?_
  have hz:(nz ns).getD (j:Int).toNat 0=((ns[j]:Nat):Int):=by
   rw [B8g];simp [nz,C0q,hj]
  rw [hz,hcut,show ((0:Int)).toNat-0=0 from rfl,show 20-0=20 from rfl]
  have hc19:=hb ns[j] (C0v hj)
  have hdl:(L6 ns[j]).length<=20:=(Iy (by decide)).2 (B99 hc19 (by decide))
  refine ex.priv.call ?_
  refine Dg (l:=[]) (gp.mono (B0 lg pb.le)) pb.clear (B99 hc19 (by decide)) (by omega) ?_
  intro A' n' c' e3 g' h0 y h' pt
  obtain ⟨rfl,rfl,rfl⟩:=y.fit (by omega)
  have yl:=y.len
  rw [C0d] at yl
  subst yl
  refine ⟨_,_,_,rfl,?_⟩
  have x2:Bx g eT A n c l p CA ns (L6 ns[j]) (A3v W ns (j+1)) tA1 tn1 tc1 h':=
   ⟨e2,h0,g',⟨B0 lg (B0 y.le y.priv.le),pt,ex.len,ex.fit,ex.tag⟩,by simpa using y.priv,B0 lg y.le,sc.mono y.le⟩
  refine ⟨fun s hp=>s=[I (((if j+1=ns.length then max (L6 ns[j]).length (W-19*j) else 19):Nat):Int)]/\hp=h',B7 (fun hf=>⟨?_,rfl⟩) (fun hf=>⟨by rw [if_neg hf];rfl,rfl⟩),?_⟩
  ·rw [if_pos hf,B8 (n:=19*(j:Int)) (by omega) (by omega),B8 (by omega) (by omega)]
   simp only [B8p,B8w,and_true,true_and]
   by_cases hc:(W:Int)-19*(j:Int)>(((L6 ns[j]).length:Nat):Int)
   ·rw [if_pos hc];omega
   ·rw [if_neg hc];omega
  ·rintro size hp11 ⟨hs2,rfl⟩
   obtain rfl:size=(((if j+1=ns.length then max (L6 ns[j]).length (W-19*j) else 19):Nat):Int):=by simpa using hs2
   have hd19:(L6 ns[j]).length<=19:=(Iy (by decide)).2 hc19
   generalize hsz:(if j+1=ns.length then max (L6 ns[j]).length (W-19*j) else 19)=sz at *
   have hsz2:(L6 ns[j]).length<=sz/\sz<=W+20:=by
    rw [<- hsz];split<;>omega
   refine A9p (q:=sz-(L6 ns[j]).length) x2 (by rw [B8 (by omega) (by omega)];omega) (by have:=ex.len;omega) ?_
   intro tA' tn' tc' hp' x3
   rw [B8 (by omega) (by omega)]
   refine ⟨⟨j,tA',tn',tc',L6 ns[j],?_,by omega,?_⟩,by simp only [iAt,B8l,B8n];omega⟩
   ·rw [show decide (j=ns.length)=false by simp;omega]
   ·rw [A4e hb ht hj,hsz];exact x3
 ·obtain rfl:k=0:=by omega
  refine B7 (fun hf=>?_) (fun hf=>?_)
  ·have hns:ns=[]:=B8j hf.symm
   subst hns
   refine A9n ex (by omega) (by omega) ?_
   intro A' n' c' e3 g' h' y
   refine hK _ _ _ e3 g' _ ?_
   have:A3v W [] 0++B8h W 48=pad W (nv []):=by simp [A3v,nv,pad,K0]
   rwa [this] at y
  ·refine hK _ _ _ e2 gA _ ?_
   ·have:A3v W ns 0=pad W (nv ns):=by unfold A3v;rw [if_pos (by omega)];simp
    rw [<- this];exact ex
end
theorem A9t:(prog.info? A4c).map (fun i=>i.zero)=some (some (.agg (B9p 20 (.int .u8 0)))):=by kernel_rfl
theorem B2d(ns:List Nat)(c:Nat):nz (ns++[c])=nz ns++[(c:Int)]:=by simp [nz]
section
variable {h g:Heap} {K:VP} {A XA:Option Addr} {n c:Nat} {eT:TypeId} {l:List UInt8}
theorem Bw{xn xc v W:Nat}(gp:Gp g)(p:Priv h g eT 1 A n c (yv l))(M:Mw g XA xn (v:Int))(hx:xn<=10000000)(hW:W<=1000000000)(hn:n<=1000000000)
 (hK:∀ A' n' c' e3 g' h',Ext g eT A n c l (pad W v) A' n' c' e3 g' h'->K (.slice A' n' c') h'):FCall prog Q8 #[.slice A n c,.slice XA xn xc,I (W:Int)] h K:=by
 obtain ⟨xs,hxl,sx,dx,nx,hxv⟩:=M
 refine Mo _ _ _ _ _ _ _ ?_
 unfold Jm
 refine p.call ?_
 refine Bt sx hxl (by omega) ?_
 intro WA wc h0 g0 l0 pw h1 pt
 obtain ⟨g1,pw1,pt1⟩:=pt.swap pw
 refine ⟨_,_,_,rfl,?_⟩
 unfold Fe
 have hvlt:(v:Int)<2^(64*xn):=by
  have:=M0 (B:=b64) (by decide) dx
  rw [hxv,<- hxl,Gq] at this;exact this
 refine ⟨fun s hp=>∃ (us:List Int) (ns:List Nat) (WA CA:Option Addr) (wn wc cn cc:Nat) (g1 g2 g3:Heap),s=[.slice WA wn wc,.slice CA cn cc]/\Pw hp g1 WA wn wc us/\Pw g1 g2 CA cn cc (nz ns)/\Priv g2 g3 eT 1 A n c (yv l)/\g.le g3/\wn=us.length/\cn=ns.length/\wn<=xn/\Dig b64 us/\Norm us/\(∀ c∈ns,c<10^19)/\(v:Int)=val b64 us*cB^ns.length+(nv ns:Int)/\(us=[]->ns.getLast? ≠ some 0),fun s hp=>match s with|[.slice A n _,_]=>B2e b64 hp A n|_=>0,⟨xs,[],WA,none,xs.length,wc,0,0,g1,g1,g0,rfl,pw1,Priv.nil _ _ _ _,pt1,l0,rfl,rfl,by omega,dx,nx,by simp,by simp [nv,hxv],by simp⟩,?_⟩
 rintro WA1 wn1 wc1 CA1 cn1 cc1 hp1 ⟨us,ns,WA2,CA2,wn2,wc2,cn2,cc2,g1,g2,g3,hs,pw,pc,pt,lg,hwn,hcn,hwx,du,nu,hb,hv,htop⟩
 simp only [B8p,B8t,and_true] at hs
 obtain ⟨⟨rfl,rfl,rfl⟩,rfl,rfl,rfl⟩:=hs
 have hu0:=C5 (B:=b64) (by decide) du
 have Mu:Mw hp1 WA1 wn1 (val b64 us):=⟨us,hwn,pw.slV,du,nu,rfl⟩
 refine B7 (fun h2=>?_) (fun h2=>?_)
 ·have hne:us≠[]:=by rintro rfl;simp at hwn;omega
  have hpos:0<val b64 us:=by
   have:=Mu.len_zero (by decide)
   omega
  have hcnb:ns.length<=64*xn:=by
   by_cases hc:ns.length<=64*xn
   ·exact hc
   ·exfalso
    have h3:(2:Int)^(64*xn)<=2^ns.length:=D0 (by decide) (by omega)
    have h4:(2:Int)^ns.length<=cB^ns.length:=by
     have:∀ k:Nat,(2:Int)^k<=cB^k:=by
      intro k
      induction k with
      | zero=>simp
      | succ k ih=>
       rw [B91,B91]
       exact Int.mul_le_mul ih (by decide) (by decide) (B8v (B97 (by decide)))
     exact this _
    have h5:1*cB^ns.length<=val b64 us*cB^ns.length:=B8m hpos (B8v (B97 (by decide)))
    omega
  refine B5c pw hne hwn du (by omega) ?_
  intro ws m r hp2 pw2 hm hmw nw dw hval hr
  obtain ⟨g1',pc',pw'⟩:=pw2.swap pc
  refine Eb L0 pc' rfl rfl (by omega) (by omega) ?_
  intro CA' cc' h' g' lg' pc2
  obtain ⟨g2',l2,pw3⟩:=pw'.after lg'
  obtain ⟨g4,pw4,pc4⟩:=pc2.swap pw3
  obtain ⟨g5,l5,pt5⟩:=pt.after l2
  obtain ⟨c0,hc0⟩:∃ c0:Nat,r=(c0:Int):=⟨r.toNat,by omega⟩
  have hc19:c0<10^19:=by
   have h6:r<10000000000000000000:=hr.2
   show c0<10000000000000000000
   omega
  have hw0:=C5 (B:=b64) (by decide) dw
  refine ⟨⟨ws.take m,ns++[c0],WA1,CA',m,wc1,cn1+1,cc',g4,g2',g5,rfl,pw4,?_,pt5,B0 lg l5,hm,by simp;omega,by omega,dw,nw,?_,?_,?_⟩,?_⟩
  ·have h9:=pc4
   rw [<- C0p (f:=B8y .u64),<- B9y,hc0,<- B2d] at h9
   exact h9
  ·intro c hc
   rcases List.mem_append.1 hc with h6|h6
   ·exact hb c h6
   ·rw [List.mem_singleton.1 h6];exact hc19
  ·rw [A5c,hv,hval,B8i,List.length_singleton,B91,hc0];grind
  ·intro he
   rw [List.getLast?_append]
   simp only [List.getLast?_singleton,Option.some_or,ne_eq,C0s]
   intro e0
   rw [he] at hval
   simp [val] at hval
   omega
  ·show B2e b64 h' WA1 m<B2e b64 hp1 WA1 wn1
   have Mw2:Mw h' WA1 m (val b64 (ws.take m)):=⟨ws.take m,hm,pw4.slV,dw,nw,rfl⟩
   rw [Ed Mw2,Ed Mu]
   have h6:1*val b64 (ws.take m)<=cB*val b64 (ws.take m):=B8m (by decide) hw0
   have h7:val b64 us=10000000000000000000*val b64 (ws.take m)+r:=by rw [hval,B95]
   omega
 ·have hnil:us=[]:=B8j (by omega)
  subst hnil
  obtain ⟨g2',pt2,pc2⟩:=pc.swap pt
  obtain ⟨g1',pt3,pw3⟩:=pw.swap pt2
  have hvn:v=nv ns:=by
   simp [val] at hv;omega
  have hcnb:ns.length<=1000000000:=by
   by_cases hc0:ns=[]
   ·subst hc0;simp
   ·have h7:=htop rfl
    obtain ⟨ms,c0,rfl⟩:∃ ms c0,ns=ms++[c0]:=⟨ns.dropLast,ns.getLast hc0,(List.dropLast_concat_getLast hc0).symm⟩
    rw [List.getLast?_append] at h7
    simp only [List.getLast?_singleton,Option.some_or,ne_eq,C0s] at h7
    have h8:=A5c ms c0
    by_cases hc:ms.length<=64*xn
    ·simp;omega
    ·exfalso
     have h3:(2:Int)^(64*xn)<=2^ms.length:=D0 (by decide) (by omega)
     have h4:(2:Int)^ms.length<=cB^ms.length:=by
      have:∀ k:Nat,(2:Int)^k<=cB^k:=by
       intro k
       induction k with
       | zero=>simp
       | succ k ih=>
        rw [B91,B91]
        exact Int.mul_le_mul ih (by decide) (by decide) (B8v (B97 (by decide)))
      exact this _
     have h5:cB^ms.length*1<=cB^ms.length*(c0:Int):=B8x (by omega) (B8v (B97 (by decide)))
     omega
  refine An A9t ?_
  intro b hb0
  refine ⟨_,rfl,?_⟩
  have hz:(Value.agg (B9p 20 (.int .u8 0))).cells=(B8h 20 (B8y .u8 0)).toArray:=by rfl
  rw [hz]
  have hg1:g1' b=none:=by
   cases hx1:g1' b with
   | none=>rfl
   | some o=>rw [pt3.le b o hx1] at hb0;cases hb0
  refine A9o (ns:=ns) gp rfl ⟨eT,_,g1',⟨?_,?_,by simp,fun _=>⟨rfl,rfl,rfl⟩,id⟩,⟨by simp [yv],by simp,.inr ⟨b,B8h 20 (B8y .u8 0),rfl,hg1,rfl,by simp,by simp [yv]⟩⟩,?_,?_⟩ hcn hb (htop rfl) hW hn hcnb (by rw [<- hvn];exact hK)
  ·exact B0 lg (B0 pc2.le (B0 pw3.le (Heap.le_put _ hg1)))
  ·rw [C00];exact pt3.put hb0 _
  ·exact B0 lg (B0 pc2.le pw3.le)
  ·exact (show SlI .u64 g2' CA1 (nz ns) from pc2.slV).mono pw3.le
end
def Du(i:Nat):Nat:=10^(19*2^i)
theorem A4j(i:Nat):Du i=(10^19)^(2^i):=Nat.pow_mul _ _ _
theorem A8l(i:Nat):0<Du i:=B9a (by decide)
theorem A4i:Du 0=10000000000000000000:=by decide
theorem Wm(i:Nat):Du (i+1)=Du i*Du i:=by
 unfold Du
 rw [<- C08]
 congr 1
 rw [C02];omega
theorem B1x(i:Nat):(Du i:Int)<b64^(2^i):=by
 have h:(10^19)^(2^i)<(18446744073709551616:Nat)^(2^i):=Nat.pow_lt_pow_left (by decide) (Nat.pos_iff_ne_zero.1 (B9a (by decide)))
 rw [<- A4j] at h
 have h2:((Du i:Nat):Int)<((18446744073709551616^(2^i):Nat):Int):=Int.ofNat_lt.2 h
 rw [C01] at h2
 exact h2
theorem B1y(i:Nat):(2:Int)^(63*2^i)<=(Du i:Int):=by
 have h:(2^63)^(2^i)<=(10^19)^(2^i):=C0m (by decide) _
 rw [<- A4j,<- Nat.pow_mul] at h
 have h2:((2^(63*2^i):Nat):Int)<=((Du i:Nat):Int):=Int.ofNat_le.2 h
 rw [C01] at h2
 exact h2
theorem B43{k m:Nat}(h:(2:Int)^k<2^m):k<m:=by
 by_cases hk:k<m
 ·exact hk
 ·have:=D0 (B:=2) (by decide) (show m<=k by omega)
  omega
abbrev slT(s:Option Addr × Nat × Nat):Value:=.slice s.1 s.2.1 s.2.2
def Pws(h:Heap)(PA:Option Addr)(k:Nat):Prop:=∃ ss:List (Option Addr × Nat × Nat),ss.length=k/\SlV h PA (ss.map slT)/\∀ i s,ss[i]? = some s->s.2.1<=s.2.2/\Mw h s.1 s.2.1 (Du i:Int)
theorem Pws.mono{h h':Heap}(l:h.le h'){PA:Option Addr}{k:Nat}(p:Pws h PA k):Pws h' PA k:=by
 obtain ⟨ss,h1,h2,h3⟩:=p
 exact ⟨ss,h1,h2.mono l,fun i s e=>⟨(h3 i s e).1,(h3 i s e).2.mono l⟩⟩
theorem Pws.take{h:Heap}{PA:Option Addr}{k j:Nat}(p:Pws h PA k)(hj:j<=k):Pws h PA j:=by
 obtain ⟨ss,h1,h2,h3⟩:=p
 refine ⟨ss.take j,by rw [B8o];omega,?_,fun i s e=>?_⟩
 ·have:=SlV.cut (c:=(ss.map slT).length) h2 (Nat.zero_le j) (by rw [B9z];omega) (B9b _)
  rw [J6,B9g,B9i,<- List.map_take] at this
  exact this
 ·rw [List.getElem?_take] at e
  split at e
  ·exact h3 i s e
  ·cases e
theorem Pws.at{h:Heap}{PA:Option Addr}{k i:Nat}(p:Pws h PA k)(hi:i<k):∃ (a:Addr) (A:Option Addr) (n c:Nat),PA=some a/\h.cell? (a.add i)=some (.slice A n c)/\n<=c/\Mw h A n (Du i:Int):=by
 obtain ⟨ss,h1,h2,h3⟩:=p
 obtain ⟨a,ha,hc⟩:=h2.at (i:=i) (by rw [B9z];omega)
 rw [C0w] at hc
 obtain ⟨h4,h5⟩:=h3 i ss[i] (B9j (by omega))
 exact ⟨a,_,_,_,ha,hc,h4,h5⟩
theorem Mw.tenP_le{h:Heap}{A:Option Addr}{n i:Nat}(m:Mw h A n (Du i:Int)):n<=2^i:=m.len_le (by decide) (B1x i)
theorem Mw.tenP_ge{h:Heap}{A:Option Addr}{n i:Nat}(m:Mw h A n (Du i:Int)):2^i<2*n:=by
 have h1:=m.lt (by decide)
 rw [Gq] at h1
 have h2:=B43 (B9l (B1y i) h1)
 omega
theorem Ext.weak{g g0 g' h':Heap}{eT e2:TypeId}{A A':Option Addr}{n c n' c':Nat}{l t:List UInt8}(l0:g0.le g)(x:Ext g eT A n c l t A' n' c' e2 g' h'):Ext g0 eT A n c l t A' n' c' e2 g' h':=⟨B0 l0 x.le,x.priv,x.len,x.fit,x.tag⟩
theorem B0e(w n:Nat):w<=(pad w n).length:=by simp [pad];omega
theorem B25{j:Nat}(hj:j<=30):B5 (19*2^(min j 64))=((19*2^j:Nat):Int):=by
 rw [B8s (by omega)]
 have h1:2^j<=2^30:=B94 (by decide) hj
 have h2:(19*2^j:Int)=((19*2^j:Nat):Int):=by rw [B8r,C01];rfl
 rw [h2,B8 (by omega) (by have:(2:Nat)^30=1073741824:=by decide
                          omega)]
theorem Uy{l:List UInt8}(hd:∀ c∈l,I0 c):(L8 l:Int)<b64^l.length:=by
 have h1:=Hf hd
 have h2:10^l.length<=(18446744073709551616:Nat)^l.length:=C0m (by decide) _
 have h3:((L8 l:Nat):Int)<((18446744073709551616^l.length:Nat):Int):=Int.ofNat_lt.2 (B99 h1 h2)
 rw [C01] at h3
 exact h3
theorem Md:∀ (k:Nat) {h g:Heap} {K:VP} {A XA PA:Option Addr} {n c xn xc pc v W:Nat} {eT:TypeId} {l:List UInt8},Gp g->Priv h g eT 1 A n c (yv l)->Mw g XA xn (v:Int)->xn<=xc->xn<=10000000->Pws g PA k->k<=pc->k<=26->(W=0\/W=19*2^k)->n+(pad W v).length<=1000000000->
 (∀ A' n' c' e3 g' h',Ext g eT A n c l (pad W v) A' n' c' e3 g' h'->K (.slice A' n' c') h')->FCall prog F0 #[.slice A n c,.slice XA xn xc,I (W:Int),.slice PA k pc] h K:=by
 intro k
 induction k with
 | zero=>
  intro h g K A XA PA n c xn xc pc v W eT l gp p M hxc hx hP hpc hk hW hn hK
  have:=B0e W v
  refine Fc _ _ _ _ _ _ _ _ _ _ ?_
  unfold Fd
  refine B7 (fun _=>?_) (fun e=>absurd (by decide) e)
  refine Bw gp p M hx (by omega) (by omega) ?_
  intro A' n' c' e2 g' h' x
  exact ⟨_,_,_,rfl,hK _ _ _ e2 g' _ x⟩
 | succ j ih=>
  intro h g K A XA PA n c xn xc pc v W eT l gp p M hxc hx hP hpc hk hW hn hK
  have hge:=B0e W v
  have e1:B5 (((j+1:Nat):Int)-1)=(j:Int):=by rw [B8 (by omega) (by omega)];omega
  refine Fc _ _ _ _ _ _ _ _ _ _ ?_
  unfold Fd
  simp only [e1,B8g,B9i,J6,B25 (show j<=30 by omega)]
  refine B7 (fun e=>absurd e (by omega)) (fun _=>B7 (fun _=>?_) (fun _=>?_))
  ·refine Bw gp p M hx (by omega) (by omega) ?_
   intro A' n' c' e2 g' h' x
   exact ⟨_,_,_,rfl,hK _ _ _ e2 g' _ x⟩
  ·obtain ⟨a,PA',pn,pcc,ha,hc,hpc',Mp⟩:=hP.at (i:=j) (by omega)
   refine ⟨a,ha,by omega,by omega,_,_,_,by rw [B8z];exact C0 p.le hc,?_⟩
   have hpn:=Mp.tenP_le
   have h2j:2^j<=2^26:=B94 (by decide) (by omega)
   have h24:(2:Nat)^26=67108864:=by decide
   have hpp:=A8l j
   refine p.call ?_
   refine P4 M Mp hxc hpc' (by omega) (by omega) (by omega) ?_
   intro A1 m1 c1 A2 m2 c2 g1 l1 k1 k2 M1 M2 h1 p1
   refine ⟨_,_,_,_,_,_,rfl,?_⟩
   rw [<- B9v] at M1
   rw [<- C0c] at M2
   have hv:=B9x v (Du j)
   have hlt:=C11 v hpp
   have hqv:=C0f v (Du j)
   generalize v/Du j=q at *
   generalize v%Du j=r at *
   have hz:=M1.len_zero (by decide)
   have hvlt:=M.lt (by decide)
   have hm1:m1<=xn:=M1.len_le (by decide) (by omega)
   have hm2:m2<=xn:=M2.len_le (by decide) (by
    have h0:0<=Du j*q:=Nat.zero_le _
    generalize Du j*q=z at *
    omega)
   have hv':v=q*10^(19*2^j)+r:=by rw [<- hv,C03];rfl
   have hs2:2^(j+1)=2*2^j:=by rw [C02];omega
   refine B7 (fun e=>absurd e (by omega)) (fun _=>?_)
   refine D9 (fun e0=>D9 (fun eW=>?_) (fun eW=>?_)) (fun e0=>?_)
   ·obtain rfl:W=0:=by omega
    obtain rfl:q=0:=by omega
    obtain rfl:v=r:=by omega
    refine ⟨⟨by omega,by omega⟩,?_⟩
    refine ih (W:=0) (gp.mono l1) p1 M2 k2 (by omega) ((hP.mono l1).take (by omega)) (by omega) (by omega) (.inl rfl) hn ?_
    intro A4 n4 c4 e4 g4 h4 x4
    exact ⟨_,_,_,rfl,hK _ _ _ _ _ _ (x4.weak l1)⟩
   all_goals
    have hw:q≠0\/19*2^j<=W:=by omega
    have hsp:=Xc (w:=W) (h:=q) (l:=r) (k:=19*2^j) hlt hw
    rw [<- hv'] at hsp
    have hpl:(pad (19*2^j) r).length=19*2^j:=Rw hlt
    have hle:(pad W v).length=(pad (W-19*2^j) q).length+19*2^j:=by rw [hsp,B8i,hpl]
    refine ⟨⟨by omega,by omega⟩,?_⟩
    have e3:(if (0:Int)>B5 ((W:Int)-((19*2^j:Nat):Int)) then (0:Int) else B5 ((W:Int)-((19*2^j:Nat):Int)))=((W-19*2^j:Nat):Int):=by
     rw [B8 (by omega) (by omega)]
     split<;>omega
    rw [e3]
    refine ih (gp.mono l1) p1 M1 k1 (by omega) ((hP.mono l1).take (by omega)) (by omega) (by omega) (by omega) (by omega) ?_
    intro A3 n3 c3 e3 g3 h3 x3
    have hn3:=x3.len
    have l3:=B0 l1 x3.le
    refine ⟨_,_,_,rfl,⟨by omega,by omega⟩,?_⟩
    refine ih (gp.mono l3) x3.priv (M2.mono x3.le) k2 (by omega) ((hP.mono l3).take (by omega)) (by omega) (by omega) (.inr rfl) (by omega) ?_
    intro A4 n4 c4 e4 g4 h4 x4
    refine ⟨_,_,_,rfl,hK _ _ _ e4 g4 _ ?_⟩
    rw [hsp]
    exact (x3.trans x4).weak l1
theorem Ec:∀ (k:Nat) {h:Heap} {K:VP} {PA:Option Addr} {pc:Nat} {l:List UInt8},(∀ c∈l,I0 c)->l.length<=100000000->Pws h PA k->k<=pc->k<=30->(∀ A n c h',h.le h'->n<=c->Mw h' A n (L8 l:Int)->K (.slice A n c) h')->FCall prog J4 #[.string (bs l),.slice PA k pc] h K:=by
 intro k
 induction k using Nat.strongRecOn with
 | _ k ih=>
  intro h K PA pc l hd hl hP hpc hk hK
  refine Qy _ _ _ _ ?_
  unfold Pr
  rw [O6]
  have simple:FCall prog J8 #[.string (bs l)] h (fun r hp=>∃ (A:Option Addr) (n c:Nat),r= .slice A n c/\K (.slice A n c) hp):=by
   refine Lz hd hl ?_
   intro A n c h' l1 hc M
   exact ⟨_,_,_,rfl,hK _ _ _ _ l1 hc M⟩
  refine ⟨fun s hp=>hp=h/\∃ j:Nat,s=[I ((j:Int)-1)]/\j<=k,fun s _=>(iAt s 0+1).toNat,⟨rfl,k,by rw [B8 (by omega) (by omega)],B9b _⟩,?_⟩
  rintro last hp ⟨rfl,j,hs,hj⟩
  obtain rfl:last=(j:Int)-1:=by simpa using hs
  refine B7 (fun h0=>?_) (fun h0=>B7 (fun _=>simple) (fun e=>absurd (show (j:Int)-1<0 by omega) e))
  obtain ⟨i,rfl⟩:∃ i,j=i+1:=⟨j-1,by omega⟩
  have e0:((i+1:Nat):Int)-1=(i:Int):=by omega
  have hpi:0<2^i:=B9a (by decide)
  simp only [e0,B8g,B9i,J6,B25 (show i<=30 by omega)]
  refine B7 (fun e=>absurd e (by omega)) (fun _=>B7 (fun h1=>?_) (fun h1=>?_))
  ·refine ⟨⟨trivial,i,by rw [B8 (by omega) (by omega)],by omega⟩,?_⟩
   simp only [iAt,B8l]
   rw [B8 (by omega) (by omega)]
   omega
  refine B7 (fun e=>absurd e (by omega)) (fun _=>B7 (fun _=>simple) (fun h570=>B7 (fun e=>absurd e (by omega)) (fun _=>?_)))
  have e2:B5 ((l.length:Int)-((19*2^i:Nat):Int))=((l.length-19*2^i:Nat):Int):=by rw [B8 (by omega) (by omega)];omega
  simp only [e2,B8g,O2,B9g,B9i]
  obtain ⟨a,PA',pn,pcc,ha,hc,hpc',Mp⟩:=hP.at (i:=i) (by omega)
  refine ⟨⟨by omega,by omega⟩,⟨by omega,by omega⟩,a,ha,by omega,by omega,_,_,_,by rw [B8z];exact hc,?_⟩
  have hpn:=Mp.tenP_le
  have h2i:19*2^i<l.length:=by omega
  have hd1:∀ c∈l.take (l.length-19*2^i),I0 c:=fun c hc=>hd c (B9w hc)
  have hd2:∀ c∈l.drop (l.length-19*2^i),I0 c:=fun c hc=>hd c (List.mem_of_mem_drop hc)
  have hl1:(l.take (l.length-19*2^i)).length=l.length-19*2^i:=by rw [B8o];omega
  have hl2:(l.drop (l.length-19*2^i)).length=19*2^i:=by rw [B93];omega
  have hval:L8 l=L8 (l.take (l.length-19*2^i))*Du i+L8 (l.drop (l.length-19*2^i)):=by
   have:=Hg (l.take (l.length-19*2^i)) (l.drop (l.length-19*2^i))
   rw [B9t,hl2] at this
   exact this
  have hb:=Uy hd
  have hb1:=Uy hd1
  have hb2:=Uy hd2
  rw [hl1] at hb1
  rw [hl2] at hb2
  refine ih i (by omega) hd1 (by omega) (hP.take (by omega)) (by omega) (by omega) ?_
  intro A1 n1 c1 h1 l1 k1 M1
  refine ⟨_,_,_,rfl,l1,?_⟩
  have hn1:=M1.len_le (by decide) hb1
  refine F3 M1 (Mp.mono l1) k1 hpc' (by omega) (by omega) ?_
  intro A2 n2 c2 h2 l2 k2 M2
  refine ⟨_,_,_,rfl,l2,⟨by omega,by omega⟩,⟨by omega,by omega⟩,?_⟩
  rw [<- B8r] at M2
  have hn2:=M2.len_le (by decide) (B9l (Int.ofNat_le.2 (by rw [hval];exact Nat.le_add_right _ _)) hb)
  rw [B8k (by rw [hl2];omega)]
  refine ih i (by omega) hd2 (by omega) ((hP.mono (B0 l1 l2)).take (by omega)) (by omega) (by omega) ?_
  intro A3 n3 c3 h3 l3 k3 M3
  refine ⟨_,_,_,rfl,l3,?_⟩
  have hn3:=M3.len_le (by decide) hb2
  refine R2 (M2.mono l3) M3 k2 k3 (by omega) (by omega) ?_
  intro A4 n4 c4 h4 l4 k4 M4
  refine ⟨_,_,_,rfl,l4,hK _ _ _ _ (B0 l1 (B0 l2 (B0 l3 l4))) k4 ?_⟩
  rw [<- C0h,<- hval] at M4
  exact M4
section
variable {h g:Heap} {K:VP} {A XA:Option Addr} {n c:Nat} {eT:TypeId} {l:List UInt8}
theorem Wn{hs:Heap}{ss:List (Option Addr × Nat × Nat)}{s:Option Addr × Nat × Nat}(h3:∀ i s,ss[i]? = some s->s.2.1<=s.2.2/\Mw hs s.1 s.2.1 (Du i:Int))(h4:s.2.1<=s.2.2/\Mw hs s.1 s.2.1 (Du ss.length:Int)):∀ i t,(ss++[s])[i]? = some t->t.2.1<=t.2.2/\Mw hs t.1 t.2.1 (Du i:Int):=by
 intro i t e
 by_cases hi:i<ss.length
 ·rw [List.getElem?_append_left hi] at e;exact h3 i t e
 ·rw [List.getElem?_append_right (by omega)] at e
  by_cases h0:i=ss.length
  ·subst h0
   simp at e
   subst e;exact h4
  ·rw [B9u (by simp;omega)] at e;cases e
theorem Ti{hs:Heap}{b:Nat}{e:TypeId}: ∀ i (t:Option Addr × Nat × Nat),[((some ⟨b,0,none⟩:Option Addr),1,1)][i]? = some t->t.2.1<=t.2.2/\Mw (hs.put b (.cells #[U 10000000000000000000] e)) t.1 t.2.1 (Du i:Int):=by
 intro i t e0
 rcases i with _|i
 ·simp at e0
  subst e0
  refine ⟨B9b _,[10000000000000000000],rfl,SlI.new _ _ _ _ _,?_,?_,?_⟩
  ·intro x hx;simp at hx;subst hx;decide
  ·unfold Norm;simp
  ·rw [A4i];simp [val]
 ·simp at e0
theorem Nz(hd:∀ c∈l,I0 c)(hl:l.length<=100000000)(hK:∀ A n c h',h.le h'->n<=c->Mw h' A n (L8 l:Int)->K (.slice A n c) h'):FCall prog Cq #[.string (bs l)] h K:=by
 refine Qx _ ?_
 unfold Pq
 rw [O6]
 refine B7 (fun h5=>?_) (fun _=>?_)
 ·refine Ax L0 rfl ?_
  intro b1 hb1
  refine ⟨_,_,_,rfl,?_⟩
  refine Eb Wp (Priv.nil _ _ _ none) rfl rfl (by omega) (by omega) ?_
  intro A1 c1 h1 g1 lg1 p1
  refine ⟨fun s hp=>∃ (ss:List (Option Addr × Nat × Nat)) (PA:Option Addr) (k pc:Nat) (g:Heap),s=[.slice PA k pc]/\Priv hp g N0 1 PA k pc (ss.map slT)/\ss.length=k/\0<k/\h.le g/\(∀ i s,ss[i]? = some s->s.2.1<=s.2.2/\Mw g s.1 s.2.1 (Du i:Int))/\2^(k-1)<=l.length,fun s _=>match s with|[.slice _ n _]=>l.length-n|_=>0,⟨[(some ⟨b1,0,none⟩,1,1)],A1,1,c1,g1,rfl,p1,rfl,by omega,B0 (Heap.le_put _ hb1) lg1,fun i s e=>⟨(Ti (hs:=h) (b:=b1) (e:=B9) i s e).1,(Ti (hs:=h) (b:=b1) (e:=B9) i s e).2.mono lg1⟩,by simp;omega⟩,?_⟩
  rintro PA k pc hp ⟨ss,PA',k',pc',g,hs,p,hk,hk0,lg,hw,hkl⟩
  simp only [B8p,B8t,and_true] at hs
  obtain ⟨rfl,rfl,rfl⟩:=hs
  have hk27:k-1<27:=by
   by_cases hc:k-1<27
   ·exact hc
   ·have:2^27<=2^(k-1):=B94 (by decide) (by omega)
    have:(2:Nat)^27=134217728:=by decide
    omega
  rw [B8g,B25 (show k<=30 by omega)]
  have e1:B5 ((k:Int)-1)=((k-1:Nat):Int):=by rw [B8 (by omega) (by omega)];omega
  have hPg:Pws hp PA k:=⟨ss,hk,p.slV,fun i s e=>⟨(hw i s e).1,(hw i s e).2.mono p.le⟩⟩
  refine B7 (fun e=>absurd e (by omega)) (fun _=>B7 (fun h6=>?_) (fun h6=>?_))
  ·obtain ⟨a,ha,hc⟩:=p.slV.at (i:=k-1) (by rw [B9z];omega)
   rw [C0w] at hc
   obtain ⟨h4,M⟩:=hw (k-1) (ss[k-1]'(by omega)) (B9j (by omega))
   generalize ss[k-1]'(by omega)=s at *
   rw [e1,B8g,B8z]
   refine ⟨a,ha,by omega,by omega,_,_,_,hc,?_⟩
   have hlen:=M.tenP_le
   refine p.call ?_
   refine F3 M M h4 h4 (by omega) (by omega) ?_
   intro A2 m2 c2 g2 l2 k2 M2 h2 p2
   refine ⟨_,_,_,rfl,?_⟩
   refine Eb Wp p2 rfl rfl (by omega) (by omega) ?_
   intro A3 c3 h3 g3 l3 p3
   have hm:2^k=2*2^(k-1):=by
    obtain ⟨i,rfl⟩:∃ i,k=i+1:=⟨k-1,by omega⟩
    rw [C02];simp;omega
   have hkk:k<2^k:=Nat.lt_two_pow_self
   refine ⟨⟨ss++[(A2,m2,c2)],A3,k+1,c3,g3,rfl,?_,by simp;omega,by omega,B0 lg (B0 l2 l3),?_,?_⟩,?_⟩
   ·rw [B9y];exact p3
   ·refine Wn (fun i s e=>⟨(hw i s e).1,(hw i s e).2.mono (B0 l2 l3)⟩) ⟨k2,?_⟩
    rw [hk,show Du k=Du (k-1)*Du (k-1) by rw [<- Wm];congr 1;omega,B8r]
    exact M2.mono l3
   ·rw [C04];omega
   ·show l.length-(k+1)<l.length-k
    omega
  ·refine Ec k hd hl hPg p.2.1 (by omega) ?_
   intro A n c h' l1 hc M
   exact ⟨_,_,_,rfl,hK _ _ _ _ (B0 lg (B0 p.le l1)) hc M⟩
 ·refine Ec 0 hd hl ⟨[],rfl,SlV.nil,by simp⟩ (by omega) (by omega) ?_
  intro A n c h' l1 hc M
  exact ⟨_,_,_,rfl,hK _ _ _ _ l1 hc M⟩
theorem Fs(hd:∀ c∈l,I0 c)(hl:l.length<=100000000)(hK:∀ A n c h',h.le h'->ZI h' false A n c (L8 l:Int)->K (.agg #[.bool false,.slice A n c]) h'):FCall prog Fw #[.string (bs l)] h K:=by
 refine A78 _ ?_
 unfold B15
 refine Nz hd hl ?_
 intro A n c h' l1 hc M
 refine ⟨_,_,_,rfl,hK _ _ _ _ l1 ⟨hc,?_,?_⟩⟩
 ·rw [Int.natAbs_natCast];exact M
 ·symm;rw [decide_eq_false_iff_not];omega
end
theorem Priv.le_put'{h g:Heap}{e:TypeId}{s:Nat}{A:Option Addr}{n c:Nat}{xs:List Value}(p:Priv h g e s A n c xs){b:Nat}(hb:h b=none)(o:Obj):g.le (g.put b o):=by
 intro k o' hk
 have hne:k≠b:=by
  rintro rfl
  rw [p.le k o' hk] at hb;cases hb
 rw [B6 _ _ hne];exact hk
theorem A43{n:Int}(h0:9223372036854775808<=n)(h1:n<18446744073709551616):B5 n=n-18446744073709551616:=by
 unfold B5 IntKind.wrap
 simp only [IntKind.signed,IntKind.bits]
 have e:n%18446744073709551616=n:=by omega
 simp only [show (2^64:Int)=18446744073709551616 from rfl,show (2^(64-1):Int)=9223372036854775808 from rfl,e]
 rw [if_pos (by simp;omega)]
section
variable {h g:Heap} {K:VP} {A XA:Option Addr} {n c:Nat} {eT:TypeId} {l:List UInt8}
theorem B54{v xn:Nat}(hv:(v:Int)<b64^xn):(dd v).length<=20*xn:=by
 refine P0.2 ?_
 rw [Nat.pow_mul]
 have h1:((v:Nat):Int)<((18446744073709551616^xn:Nat):Int):=by rw [C01];exact hv
 exact B99 (Int.ofNat_lt.1 h1) (C0m (by decide) _)
theorem Dh{xn xc v:Nat}(gp:Gp g)(p:Priv h g eT 1 A n c (yv l))(M:Mw g XA xn (v:Int))(hxc:xn<=xc)(hx:xn<=10000000)(hn:n<=200000000)
 (hK:∀ A' n' c' e3 g' h',Ext g eT A n c l (L6 v) A' n' c' e3 g' h'->K (.slice A' n' c') h'):FCall prog T3 #[.slice A n c,.slice XA xn xc] h K:=by
 have h0:=M.len_zero (by decide)
 refine Px _ _ _ _ _ _ ?_
 unfold Lr
 refine D9 (fun e=>?_) (fun e=>?_)
 ·obtain rfl:v=0:=by omega
  refine Cn (ch:=48) rfl p (by omega) ?_
  intro A' n' c' e2 g' h' x
  exact hK _ _ _ _ _ _ x
 ·have hv0:v≠0:=by omega
  refine D9 (fun e1=>?_) (fun e1=>?_)
  ·obtain ⟨xs,hxl,sx,dx,nx,hxv⟩:=M
   obtain ⟨w,rfl⟩:∃ w,xs=[w]:=by
    rcases xs with _|⟨w,_|⟨w',r⟩⟩
    ·simp at hxl;omega
    ·exact ⟨w,rfl⟩
    ·simp at hxl;omega
   rw [Ce] at hxv
   subst hxv
   refine (SlI.mono p.le sx).load hxl (by omega) (by omega) ?_
   have hw:=dx v (by simp)
   refine Dg (gp.mono p.le) p (by have:(v:Int)<18446744073709551616:=hw.2;omega) (by omega) ?_
   intro A' n' c' e2 g' h' x
   exact ⟨_,_,_,rfl,hK _ _ _ _ _ _ x⟩
  ·have hdl:=B54 (M.lt (by decide))
   have hpl:(pad 0 v).length<=200000000:=by rw [A1l];omega
   refine Ax L0 rfl ?_
   intro b1 hb1
   refine ⟨_,_,_,rfl,?_⟩
   have p1:=p.put hb1 (.cells #[U 10000000000000000000] B9)
   have l1:=p.le_put' hb1 (.cells #[U 10000000000000000000] B9)
   have w1:=fun i s e=>Ti (hs:=g) (b:=b1) (e:=B9) i s e
   generalize h.put b1 (Obj.cells #[U 10000000000000000000] B9)=h1 at *
   generalize g.put b1 (Obj.cells #[U 10000000000000000000] B9)=g1 at *
   refine Ax Wp rfl ?_
   intro b2 hb2
   refine ⟨_,_,_,rfl,?_⟩
   have split:∀ {hp:Heap} {ss:List (Option Addr × Nat × Nat)} {PA:Option Addr} {k pc:Nat} {gp1 gp2:Heap},Priv hp gp1 N0 1 PA k pc (ss.map slT)->Priv gp1 gp2 eT 1 A n c (yv l)->ss.length=k->g.le gp2->(∀ i s,ss[i]? = some s->s.2.1<=s.2.2/\Mw gp2 s.1 s.2.1 (Du i:Int))->k<=26->
    FCall prog F0 #[.slice A n c,.slice XA xn xc,I (0:Int),.slice PA k pc] hp (fun r hp9=>∃ (A1:Option Addr) (n1 c1:Nat),r= .slice A1 n1 c1/\K (.slice A1 n1 c1) hp9):=by
    intro hp ss PA k pc gp1 gp2 pP pT hk lg hw hk24
    obtain ⟨g3,pT3,pP3⟩:=pP.swap pT
    have l3:=B0 lg pP3.le
    refine Md k (W:=0) (gp.mono l3) pT3 (M.mono l3) hxc hx ⟨ss,hk,pP3.slV,fun i s e=>⟨(hw i s e).1,(hw i s e).2.mono pP3.le⟩⟩ pP3.2.1 hk24 (.inl rfl) (by omega) ?_
    intro A' n' c' e2 g' h' x
    refine ⟨_,_,_,rfl,hK _ _ _ e2 g' _ ?_⟩
    rw [A1l,<- X8 hv0] at x
    exact x.weak l3
   refine ⟨fun s hp=>∃ (ss:List (Option Addr × Nat × Nat)) (PA:Option Addr) (k pc:Nat) (gp1 gp2:Heap),s=[.slice PA k pc]/\Priv hp gp1 N0 1 PA k pc (ss.map slT)/\Priv gp1 gp2 eT 1 A n c (yv l)/\ss.length=k/\0<k/\g.le gp2/\(∀ i s,ss[i]? = some s->s.2.1<=s.2.2/\Mw gp2 s.1 s.2.1 (Du i:Int))/\2^(k-1)<=2*xn,fun s _=>match s with|[.slice _ n _]=>xn-n|_=>0,⟨[(some ⟨b1,0,none⟩,1,1)],_,1,1,h1,g1,rfl,⟨by simp,by simp,.inr ⟨b2,[.slice (some ⟨b1,0,none⟩) 1 1],rfl,hb2,rfl,by simp,by simp⟩⟩,p1,rfl,by omega,l1,w1,by simp;omega⟩,?_⟩
   rintro PA k pc hp ⟨ss,PA',k',pc',gp1,gp2,hs,pP,pT,hk,hk0,lg,hw,hkx⟩
   simp only [B8p,B8t,and_true] at hs
   obtain ⟨rfl,rfl,rfl⟩:=hs
   have hk24:k<=26:=by
    by_cases hc:k<=26
    ·exact hc
    ·have h1:2^26<=2^(k-1):=B94 (by decide) (by omega)
     have h2:(2:Nat)^26=67108864:=by decide
     omega
   refine B7 (fun h30=>?_) (fun _=>split pP pT hk lg hw hk24)
   have e1:B5 ((k:Int)-1)=((k-1:Nat):Int):=by rw [B8 (by omega) (by omega)];omega
   obtain ⟨a,ha,hc⟩:=pP.slV.at (i:=k-1) (by rw [B9z];omega)
   rw [C0w] at hc
   obtain ⟨h4,Mk⟩:=hw (k-1) (ss[k-1]'(by omega)) (B9j (by omega))
   generalize ss[k-1]'(by omega)=s at *
   simp only [e1,B8g,B8z]
   refine ⟨a,ha,by omega,by omega,_,_,_,hc,?_⟩
   have hge:=Mk.tenP_ge
   have hle:=Mk.tenP_le
   have e2:B5 (2*(s.2.1:Int))=2*(s.2.1:Int):=B8 (by omega) (by omega)
   rw [e2]
   refine B7 (fun h5=>?_) (fun _=>split pP pT hk lg hw hk24)
   refine ⟨a,ha,by omega,by omega,_,_,_,hc,?_⟩
   refine pP.call (pT.call ?_)
   refine F3 Mk Mk h4 h4 (by omega) (by omega) ?_
   intro A2 m2 c2 g2 l2 k2 M2 gp1' pT' hp' pP'
   refine ⟨_,_,_,rfl,?_⟩
   refine Eb Wp pP' rfl rfl (by omega) (by omega) ?_
   intro A3 c3 h3 g3 l3 p3
   obtain ⟨g4,l4,pT4⟩:=pT'.after l3
   have hm:2^k=2*2^(k-1):=by
    obtain ⟨i,rfl⟩:∃ i,k=i+1:=⟨k-1,by omega⟩
    rw [C02];simp;omega
   have hkk:k<2^k:=Nat.lt_two_pow_self
   refine ⟨⟨ss++[(A2,m2,c2)],A3,k+1,c3,g3,g4,rfl,?_,pT4,by simp;omega,by omega,B0 lg (B0 l2 l4),?_,?_⟩,?_⟩
   ·rw [B9y];exact p3
   ·refine Wn (fun i s e=>⟨(hw i s e).1,(hw i s e).2.mono (B0 l2 l4)⟩) ⟨k2,?_⟩
    rw [hk,show Du k=Du (k-1)*Du (k-1) by rw [<- Wm];congr 1;omega,B8r]
    exact M2.mono l4
   ·rw [C04];omega
   ·show xn-(k+1)<xn-k
    omega
theorem A8a{z:Int}{s:Bool}{xn xc m:Nat}(i:ZI h s XA xn xc z)(hz:ZB m z)(hm:m<=100000000):xn<=10000000:=by
 obtain ⟨k,hk⟩:∃ k,k=10000000:=⟨_,rfl⟩
 rw [<- hk]
 refine i.mag.len_le (by decide) ?_
 rw [Gq]
 have h1:(z.natAbs:Int)<2^m:=by
  have:((z.natAbs:Nat):Int)<((2^m:Nat):Int):=Int.ofNat_lt.2 hz
  simpa using this
 have h2:=D0 (B:=2) (by decide) (show m<=64*k by omega)
 exact Int.lt_of_lt_of_le h1 h2
theorem Dp{s:Bool}{xn xc:Nat}{z:Int}(gp:Gp g)(p:Priv h g eT 1 A n c (yv l))(i:ZI g s XA xn xc z){m:Nat}(hz:ZB m z)(hm:m<=100000000)(hn:n<=100000000)
 (hK:∀ A' n' c' e3 g' h',Ext g eT A n c l (Kz z) A' n' c' e3 g' h'->K (.slice A' n' c') h'):FCall prog Eh #[.agg #[.bool s,.slice XA xn xc],.slice A n c] h K:=by
 have hx:=A8a i hz hm
 refine A3h _ _ _ _ _ _ _ ?_
 unfold A75
 refine Br.of (fun e=>?_) (fun e=>?_)
 ·have hneg:z<0:=by have:=i.sgn;rw [e] at this;simpa using this.symm
  rw [Tg hneg] at hK
  refine Cn (ch:=45) rfl p (by omega) ?_
  intro A1 n1 c1 e1 g1 hp1 x1
  have:=x1.len
  refine Dh (gp.mono x1.le) x1.priv (i.mag.mono x1.le) i.cap hx (by simp at this;omega) ?_
  intro A2 n2 c2 e2 g2 hp2 x2
  exact ⟨_,_,_,rfl,hK _ _ _ _ _ _ (x1.trans x2)⟩
 ·have hneg:¬ z<0:=by have:=i.sgn;rw [e] at this;simpa using this.symm
  rw [Hw hneg] at hK
  refine Dh gp p i.mag i.cap hx (by omega) ?_
  intro A2 n2 c2 e2 g2 hp2 x2
  exact ⟨_,_,_,rfl,hK _ _ _ _ _ _ x2⟩
theorem Vz{s:Bool}{xn xc:Nat}{z:Int}(gp:Gp h)(i:ZI h s XA xn xc z){m:Nat}(hz:ZB m z)(hm:m<=100000000)(hK:K (.string (bs (Kz z))) h):FCall prog Ot #[.agg #[.bool s,.slice XA xn xc]] h K:=by
 refine FCall.pure (A3e _ _ _ _ ?_)
 unfold A6z
 refine Dp (l:=[]) (eT:=F9) gp (Priv.nil _ _ _ _) i hz hm (by omega) ?_
 intro A' n' c' e2 g' h' x
 refine ⟨_,_,_,rfl,?_⟩
 have hx:=x.len
 refine Hx Dv.und Bi R7 x.priv.slV (by simpa using hx) ⟨_,rfl,?_⟩
 exact ⟨B0 x.le x.priv.le,hK⟩
theorem Zf{s:Bool}{xn xc:Nat}{z:Int}(i:ZI h s XA xn xc z)(hK1: -9223372036854775808<=z->z<9223372036854775808->K (.tuple #[I z,.bool true]) h)(hK0:¬ (-9223372036854775808<=z/\z<9223372036854775808)->K (.tuple #[I 0,.bool false]) h):FCall prog Uk #[.agg #[.bool s,.slice XA xn xc]] h K:=by
 have hz:=i.zeroIff
 have cx:=T8 i.sgn
 refine A73 _ _ _ _ ?_
 unfold B13
 refine D9 (fun e=>?_) (fun e=>?_)
 ·obtain rfl:z=0:=by omega
  exact hK1 (by omega) (by omega)
 ·obtain ⟨xs,hxl,sx,dx,nx,hxv⟩:=i.mag
  have g0:=K5 dx 0
  refine sx.load hxl (by omega) (by omega) ?_
  rw [show ((0:Int)).toNat=0 from rfl]
  refine B7 (fun e1=>?_) (fun e1=>?_)
  ·refine hK0 ?_
   have hge:=i.mag.ge (by decide) (by omega)
   have h2:b64^1<=b64^(xn-1):=D0 (by decide) (by omega)
   have h3:b64^1=18446744073709551616:=by decide
   omega
  ·obtain ⟨w,rfl⟩:∃ w,xs=[w]:=by
    rcases xs with _|⟨w,_|⟨w',r⟩⟩
    ·simp at hxl;omega
    ·exact ⟨w,rfl⟩
    ·simp at hxl;omega
   rw [Ce] at hxv
   have hw:[w].getD 0 0=w:=rfl
   rw [hw] at g0 ⊢
   rcases cx with ⟨rfl,hx⟩|⟨rfl,hx⟩
   ·refine Br.of (fun _=>?_) (fun e2=>by cases e2)
    refine B7 (fun e3=>?_) (fun e3=>?_)
    ·have:B5 (C3 (0-w))=z:=by rw [F1,A43 (by omega) (by omega)];omega
     rw [this];exact hK1 (by omega) (by omega)
    ·refine Br.of (fun e4=>by cases e4) (fun _=>?_)
     exact hK0 (by omega)
   ·refine Br.of (fun e2=>by cases e2) (fun _=>?_)
    refine Br.of (fun _=>?_) (fun e4=>by cases e4)
    refine B7 (fun e3=>?_) (fun e3=>?_)
    ·have:B5 w=z:=by rw [B8 (by omega) (by omega)];omega
     rw [this];exact hK1 (by omega) (by omega)
    ·exact hK0 (by omega)
end
theorem A5g(a b:Rat):(a*b).num=a.num.tdiv (B9k a.num.natAbs b.den:Nat)*b.num.tdiv (B9k b.num.natAbs a.den:Nat)/\(a*b).den=a.den/(B9k b.num.natAbs a.den)*(b.den/(B9k a.num.natAbs b.den)):=by
 show (Rat.mul a b).num=_/\(Rat.mul a b).den=_
 delta Rat.mul
 simp only [Int.divExact_eq_tdiv,Nat.divExact_eq_div,and_self]
theorem B0v{q:Rat}(h:q.den=1):q=(q.num:Rat):=by
 apply Rat.ext
 ·simp
 ·simpa using h
end Go.Proofs.YtajkakhfcokljaaGreatDoor
