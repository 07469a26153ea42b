/-
  Texts of this proof, merged by a program of ours.
-/
import Derived.Test.YtajkakhfcokljaaGreatDoorG20
import Derived.Test.YtajkakhfcokljaaGreatDoorG08
import Derived.Test.YtajkakhfcokljaaGreatDoorG10
open Go.Proofs.Tryz
set_option linter.all false
open _root_.Array renaming replicate->C4c
open Bool renaming false_eq_true->C4o
open _root_.Go.Builtin renaming zeroCells->C43,append_->C4b
open _root_.ByteArray renaming size->C4s
open Int renaming toNat_natCast->C35,mul_le_mul_of_nonneg_left->C38,mul_le_mul_of_nonneg_right->C3a,emod_lt_of_pos->C3e,mul_ediv_add_emod->C3f,mul_comm->C3m,le_of_lt->C3n,emod_nonneg->C3o,pow_succ->C3s,natCast_mul->C3t,mul_nonneg->C3u,pow_add->C3x,mul_lt_mul_of_pos_right->C3y,ediv_lt_of_lt_mul->C3z,ofNat_tdiv->C40,pow_pos->C42,ofNat_tmod->C45,gcd_natCast_natCast->C49,eq_ofNat_of_zero_le->C4a,mul_assoc->C4h,tmod_eq_emod_of_nonneg->C4k,tdiv_eq_ediv_of_nonneg->C4l,tdiv->C4n,mul_add->C4w,natCast_ediv->C4y,tmod->C58,lt_of_le_of_lt->C5f,fdiv->C5g,natCast_emod->C5l,natCast_add->C5n,gcd->C5o,ediv_nonneg->C5p,mul_lt_mul_of_pos_left->C5q
open List renaming replicate->C34,length_append->C36,eq_nil_of_length_eq_zero->C37,take_of_length_le->C39,getElem?_cons_zero->C3b,getElem?_cons_succ->C3c,length_take->C3d,append_assoc->C3h,drop_of_length_le->C3j,length_drop->C3k,length_replicate->C3r,take_append_of_le_length->C3v,append_nil->C3w,take_replicate->C46,drop_replicate->C47,replicate_append_replicate->C4e,take_append->C4f,replicate_succ'->C4g,nil_append->C4j,drop_zero->C4q,drop_eq_getElem_cons->C4r,take_length->C4x,take_left'->C53,take_append_drop->C54,map_append->C55,getElem?_toArray->C56,getElem?_eq_none->C57,mem_of_mem_take->C5a,map_singleton->C5d,getD->C5e,getElem_mem->C5j,drop_append_of_le_length->C5k,getLast?_eq_getElem?->C5r
open List.cons renaming injEq->C3g
open Nat renaming min_eq_left->C3i,mul_one->C41,sub_zero->C48,le_refl->C4d,pow_pos->C4i,lt_of_lt_of_le->C4m,gcd->C4p,one_mul->C4t,add_sub_cancel_left->C4u,add_mul->C4v,zero_add->C4z,mul_comm->C50,le_trans->C51,div_add_mod->C52,pow_le_pow_right->C59,pow_add->C5b,mul_assoc->C5c,min_eq_right->C5i,div_le_self->C5m
open Nat.Coprime renaming gcd_mul_left_cancel_right->C44
open Option.some renaming injEq->C5h
open _root_.Go.Value renaming int->C3q
open _root_.Go.Value.int renaming injEq->C3p
open _root_.Go.Value.slice renaming injEq->C3l
namespace Go.Proofs.YtajkakhfcokljaaGreatDoor
set_option maxRecDepth 20000
open Go
theorem A36{x a b p:Int}(h:a+p*b=x)(h0:0<=a)(h1:a<p):x/p=b/\x%p=a:=(Int.ediv_emod_unique (by omega)).2 ⟨h,h0,h1⟩
theorem Tz{P:Program}{h:Heap}{A:Option Addr}{n m c s:Nat}{cs:List Value}(hl:cs.length=n*s)(hc:cs=[]\/∃ a,A=some a/\∀ j v,cs[j]? = some v->h.cell? (a.add j)=some v){K:Array Value->Heap->Prop}(x:K cs.toArray h):
 wpH P (Builtin.firstCells s n (.slice A m c)) K h:=by
 cases A with
 | none=>
  rcases hc with rfl|⟨a,e,_⟩
  ·exact x
  ·cases e
 | some a=>
  show wpH P (loadCells a (n*s)) K h
  rcases hc with rfl|⟨a',e,hc⟩
  ·exact S1 (cs:=[]) hl.symm (fun j v e=>by simp at e) x
  ·cases e
   exact S1 hl.symm hc x
theorem B31{P:Program}{t e ty:TypeId}{k:IntKind}{bytes:Nat}(s:SliceT P t e (.int k 0) 1 bytes){h g:Heap}{b:Nat}{A:Option Addr}{pre post:List Value}{xs:List Int}{n c m d:Nat}(w:Win k h g b e A pre xs post)(hn:n=xs.length){B:Option Addr}{ys:List Int}(sy:SlI k h B ys)(hm:min m xs.length=ys.length){K:VP}
 (x:∀ h',Win k h' g b e A pre (ys++xs.drop ys.length) post->K (I ys.length) h'):wpH P (Builtin.copy_ #[t,t] ty #[.slice A n c,.slice B m d]) K h:=by
 subst hn
 have hle:ys.length<=xs.length:=by omega
 obtain ⟨i,hi,hz,hsz,hby⟩:=s.parts
 unfold Builtin.copy_
 simp only [C56,C3b,C3c,C6,E7 s.und,K4 hi,F7,Builtin.lenOf,hsz]
 have hmin:Nat.min m xs.length=ys.length:=hm
 rw [hmin]
 refine Tz (s:=1) (cs:=ys.map (C3q k)) (by simp) sy ?_
 cases A with
 | none=>
  rcases w.at_ with h0|h0
  ·subst h0
   have:ys=[]:=C37 (by simpa using hle)
   subst this
   exact x h (by simpa using w)
  ·cases h0
 | some a=>
  simp only [C6]
  rcases w.at_ with h0|h0
  ·subst h0
   have:ys=[]:=C37 (by simpa using hle)
   subst this
   exact x h (by simpa using w)
  ·cases h0
   rw [w.eq]
   refine I0 (ys.map (C3q k)) pre.length 0 (pre++xs.map (C3q k)++post) (by simp;omega) (fun v hv=>?_) ?_
   ·obtain ⟨u,_,rfl⟩:=List.mem_map.1 hv;rfl
   ·refine x _ ⟨w.free,?_,?_⟩
    ·congr 3
     unfold J7
     rw [Nat.add_zero,C3h pre,C53 rfl,List.length_map]
     rw [List.drop_append,C3j (show pre.length<=pre.length+ys.length by omega),C4u,C4j]
     rw [C5k (by simpa using hle),<- List.map_drop,C55]
     simp only [C3h]
    ·right;rfl
section
variable {h g:Heap} {K:VP} {A B:Option Addr} {ac bc:Nat}
theorem B4c(a n:Nat):(if (a:Int)<(n:Int) then (a:Int) else (n:Int))=((min n a:Nat):Int):=by split<;>omega
theorem Jp{xs:List Int}(d:Dig b64 xs)(n:Nat):val b64 xs/b64^n=val b64 (xs.drop (min n xs.length))/\val b64 xs%b64^n=val b64 (xs.take (min n xs.length)):=by
 by_cases hn:n<=xs.length
 ·rw [C3i hn]
  have h1:=F1 b64 xs hn
  have h2:=C7 (by decide) (d.take n)
  have h3:=K6 (by decide) (d.take n)
  rw [C3d,C3i hn] at h3
  exact A36 h1.symm h2 h3
 ·rw [C5i (by omega),List.drop_length,C4x]
  have h2:=C7 (by decide) d
  have h3:=K6 (by decide) d
  have h4:=D0 (B:=b64) (by decide) (show xs.length<=n by omega)
  exact A36 (by simp [val]) h2 (by omega)
theorem V5{x:Int}{an n:Nat}(ma:Mw h A an x)(ha:an<=ac)(hK:∀ A' m c',m<=c'->m<=an->Mw h A' m (x/b64^n)->K (.slice A' m c') h):FCall prog R7 #[.slice A an ac,I n] h K:=by
 obtain ⟨xs,rfl,sx,dx,nx,rfl⟩:=ma
 refine Yn _ _ _ _ ?_
 unfold Vn
 rw [B4c,C35]
 refine ⟨⟨by omega,by omega⟩,hK _ _ _ (by omega) (by omega) ?_⟩
 rw [(Jp dx n).1,<- C3k]
 refine Mw.of (Ye sx (by omega) ha) (dx.drop _) ?_
 by_cases hk:min n xs.length<xs.length
 ·exact Ki nx hk
 ·rw [C3j (by omega)];exact Norm.nil
theorem Du{x:Int}{an n:Nat}(ma:Mw h A an x)(ha:an<=ac)(hl:an<=10000000000)(hK:∀ A' m c',m<=c'->m<=n->m<=an->Mw h A' m (x%b64^n)->K (.slice A' m c') h):FCall prog Bi #[.slice A an ac,I n] h K:=by
 obtain ⟨xs,rfl,sx,dx,nx,rfl⟩:=ma
 refine A13 _ _ _ _ ?_
 unfold A14
 rw [B4c,C35,G9,C48,C48]
 refine ⟨⟨by omega,by omega⟩,Af (Hy sx (m:=min n xs.length) (by omega) ha) (dx.take _) (by rw [C3d];omega) (Jp dx n).2.symm (by omega) (by omega) ?_⟩
 intro m hm M
 exact ⟨_,_,_,rfl,hK _ _ _ (by omega) (by omega) (by omega) M⟩
theorem Fu{x y:Int}{an bn n:Nat}(ma:Mw h A an x)(mb:Mw h B bn y)(hbn:bn<=n)(hl:n+an<=5000000000)(hK:∀ A' m c' h',h.le h'->m<=c'->Mw h' A' m (x*b64^n+y)->K (.slice A' m c') h'):FCall prog Jc #[.slice A an ac,.slice B bn bc,I n] h K:=by
 obtain ⟨xs,rfl,sx,dx,nx,rfl⟩:=ma
 obtain ⟨ys,rfl,sy,dy,ny,rfl⟩:=mb
 refine B3f _ _ _ _ _ _ _ ?_
 unfold B9g
 have e1:B5 ((n:Int)+xs.length)=((n+xs.length:Nat):Int):=by rw [B7 (by omega) (by omega)];omega
 rw [e1]
 refine J3 O6 (by omega) (by omega) (by omega) ?_
 intro b hb
 rw [C35]
 refine ⟨_,_,_,rfl,?_⟩
 have w0:=Win.blk .u64 C1 hb (C34 (n+xs.length) 0)
 refine En O6 w0 (by simp) (sy.mono w0.le) rfl (by simp;omega) ?_
 intro h1 w1
 refine ⟨_,rfl,⟨by omega,by omega⟩,?_⟩
 rw [C47] at w1
 generalize hz:ys++C34 (n+xs.length-ys.length) (0:Int)=zs at w1
 have hzl:zs.length=n+xs.length:=by rw [<- hz];simp;omega
 have w2:=w1.sub (l:=n) (m:=n+xs.length) (c:=n+xs.length) (by omega) (by omega) (by omega)
 rw [C35]
 refine En O6 w2 (by rw [C3d,C3k];omega) (sx.mono w1.le) rfl (by rw [C3d,C3k];omega) ?_
 intro h2 w3
 rw [C3j (by rw [C3d,C3k];omega),C3w] at w3
 have w4:=w1.whole (l:=n) (m:=n+xs.length) (by omega) (by omega) (by omega) w3
 rw [C3j (show zs.length<=n+xs.length by omega),C3w] at w4
 have hzt:zs.take n=ys++C34 (n-ys.length) 0:=by
  rw [<- hz,C4f,C39 (by omega),C46]
  congr 2;omega
 rw [hzt] at w4
 refine ⟨_,rfl,Af w4.sl ((dy.append (H0 (by decide) _)).append dx) (by simp;omega) rfl (by omega) (by omega) ?_⟩
 intro m hm M
 refine ⟨_,_,_,rfl,hK _ _ _ _ w4.le hm ?_⟩
 rw [F8,Bp] at M
 have e:(ys++C34 (n-ys.length) (0:Int)).length=n:=by simp;omega
 rw [e] at M
 have e2:val b64 xs*b64^n+val b64 ys=val b64 ys+b64^n*val b64 xs:=by rw [C3m];omega
 rw [e2];exact M
theorem B74{x y:Int}(hx:0<=x/\x<18446744073709551616)(hy:0<=y/\y<18446744073709551616)(hK:K (.tuple #[U (x*y/18446744073709551616),U (x*y%18446744073709551616)]) h):FCall prog A96 #[U x,U y] h K:=by
 refine B7p _ _ ?_
 unfold C2t
 exact Kj hx hy ⟨_,_,rfl,hK⟩
theorem A2h{v:Int}{n:Nat}(s:SlI .u64 h A [v])(hn:0<n)(hl:n<=1000000000)(hK:∀ A' h',h.le h'->SlI .u64 h' A' (C34 n v)->K (.slice A' n n) h'):FCall prog Rt #[.slice A 1 ac,I n] h K:=by
 refine A6h _ _ _ _ ?_
 unfold B09
 refine B6 (fun h1=>by omega) (fun _=>?_)
 rw [C2 (n:=((1:Nat):Int)) (by omega) (by omega),C2 (n:=(n:Int)) (by omega) (by omega)]
 refine B74 (by omega) (by omega) ⟨_,_,rfl,?_⟩
 have e1:((1:Nat):Int)*(n:Int)/18446744073709551616=0:=by omega
 have e2:((1:Nat):Int)*(n:Int)%18446744073709551616=n:=by omega
 rw [e1,e2]
 refine B6 (fun h1=>by omega) (fun _=>?_)
 refine B6 (fun h1=>by omega) (fun _=>?_)
 rw [B7 (n:=(n:Int)) (by omega) (by omega)]
 refine J3 O6 (by omega) (by omega) (by omega) ?_
 intro b hb
 rw [C35]
 refine ⟨_,_,_,rfl,?_⟩
 have w0:=Win.blk .u64 C1 hb (C34 n 0)
 refine En O6 w0 (by simp) (s.mono w0.le) rfl (by simp;omega) ?_
 intro h1 w1
 refine ⟨_,rfl,?_⟩
 rw [C47] at w1
 refine ⟨fun l hp=>∃ k:Nat,l=[I k]/\0<k/\k<=n/\Win .u64 hp h b C1 (some ⟨b,0,none⟩) [] (C34 k v++C34 (n-k) 0) [],fun l _=>n-(iAt l 0).toNat,⟨1,rfl,by omega,hn,w1⟩,?_⟩
 rintro i hp ⟨k,hli,hk0,hkn,w⟩
 obtain rfl:=sI1 hli
 refine B6 (fun h2=>?_) (fun h2=>?_)
 ·have hzl:(C34 k v++C34 (n-k) (0:Int)).length=n:=by simp;omega
  refine ⟨⟨by omega,by omega⟩,⟨by omega,by omega⟩,?_⟩
  simp only [C35,G9,C48]
  have w2:=w.sub (l:=k) (m:=n) (c:=n) (by omega) (by omega) (by omega)
  have e3:((C34 k v++C34 (n-k) (0:Int)).drop k).take (n-k)=C34 (n-k) 0:=by
   rw [List.drop_left' (by simp),C39 (by simp)]
  rw [e3] at w2
  have s2:SlI .u64 hp (some ⟨b,0,none⟩) (C34 (min k (n-k)) v):=by
   have:=Hy w.sl (c:=n) (m:=min k (n-k)) (by omega) (by omega)
   rwa [C3v (by simp;omega),C46,C3i (by omega)] at this
  refine B31 O6 w2 (by simp) s2 (by simp) ?_
  intro h3 w3
  rw [C3r] at w3 ⊢
  have w4:=w.whole (l:=k) (m:=n) (by omega) (by omega) (by simp;omega) w3
  have e4:B5 ((k:Int)+(min k (n-k):Nat))=((k+min k (n-k):Nat):Int):=by rw [B7 (by omega) (by omega)];omega
  refine ⟨_,rfl,?_⟩
  rw [e4]
  refine ⟨⟨_,rfl,by omega,by omega,?_⟩,?_⟩
  ·have e5:(C34 k v++C34 (n-k) (0:Int)).take k++(C34 (min k (n-k)) v++(C34 (n-k) (0:Int)).drop (min k (n-k)))++(C34 k v++C34 (n-k) (0:Int)).drop n=C34 (k+min k (n-k)) v++C34 (n-(k+min k (n-k))) 0:=by
    rw [C53 (by simp),C3j (show (C34 k v++C34 (n-k) (0:Int)).length<=n by omega),C3w,C47,<- C3h,C4e]
    congr 2;omega
   rw [e5] at w4
   exact w4
  ·simp only [iAt,C3b];omega
 ·have hkn:k=n:=by omega
  subst hkn
  have:=w.sl
  rw [Nat.sub_self,List.replicate_zero,C3w] at this
  exact hK _ _ w.le this
end
theorem Mw.high{h:Heap}{A:Option Addr}{an ac k:Nat}{x:Int}(ma:Mw h A an x)(ha:an<=ac)(hk:k<=an):Mw h (K0 A ac k 1) (an-k) (x/b64^k):=by
 obtain ⟨xs,rfl,sx,dx,nx,rfl⟩:=ma
 have e:=(Jp dx k).1
 rw [C3i hk] at e
 rw [e,<- C3k]
 refine Mw.of (Ye sx hk ha) (dx.drop _) ?_
 by_cases hk2:k<xs.length
 ·exact Ki nx hk2
 ·rw [C3j (by omega)];exact Norm.nil
theorem B22{x P X2 yh top:Int}(hP:0<P)(h1:x<P*P*(X2+1))(h2:P*top<=x)(hlt:X2<yh):top<P*yh:=by
 by_cases hc:top<P*yh
 ·exact hc
 ·have t1:P*(P*yh)<=P*top:=C38 (by omega) (by omega)
  have t2:P*P*(X2+1)<=P*P*yh:=C38 (by omega) (C3u (by omega) (by omega))
  rw [C4h P P yh] at t2
  omega
theorem B23{x P X2 yh top:Int}(hP:0<P)(h1:P*P*X2<=x)(h2:x<P*(top+1))(hge:yh<=X2):P*yh<=top:=by
 by_cases hc:P*yh<=top
 ·exact hc
 ·have t1:P*(top+1)<=P*(P*yh):=C38 (by omega) (by omega)
  have t2:P*P*yh<=P*P*X2:=C38 (by omega) (C3u (by omega) (by omega))
  rw [C4h P P yh] at t2
  omega
def B5k(N:Nat):Prop:=∀ {h:Heap} {K:VP} {A B:Option Addr} {ac bc an bn:Nat} {x y:Int},bn<=N->Mw h A an x->Mw h B bn y->an<=ac->bn<=bc->an<=1000000000->bn<=200000000->0<bn->9223372036854775808*b64^(bn-1)<=y->x<b64^bn*y->
 (∀ A1 m1 c1 A2 m2 c2 h',h.le h'->m1<=c1->m2<=c2->Mw h' A1 m1 (x/y)->Mw h' A2 m2 (x%y)->K (.tuple #[.slice A1 m1 c1,.slice A2 m2 c2]) h')->FCall prog S5 #[.slice A an ac,.slice B bn bc] h K
section
variable {h g:Heap} {K:VP} {A B:Option Addr} {ac bc:Nat}
theorem Hz{x y:Int}:Tr x y<0↔x<y:=by
 unfold Tr
 by_cases h1:x<y
 ·rw [if_pos h1];simp [h1]
 ·rw [if_neg h1]
  by_cases h2:x>y
  ·rw [if_pos h2];simp [h1]
  ·rw [if_neg h2];simp [h1]
set_option maxHeartbeats 1000000 in
theorem A26{x y q0 R0 pr:Int}{m bn nq cq np cp nr cr:Nat}{Aq Ap Ar:Option Addr}(hx0:0<=x)(mb:Mw h B bn y)(hb:bn<=bc)(hl2:bn<=200000000)(hbm:bn=2*m)(mq:Mw h Aq nq q0)(hq:nq<=cq)(mp:Mw h Ap np pr)(hp2:pr<b64^bn)
 (mr:Mw h Ar nr R0) (hr:nr<=cr) (hq0:q0<b64^m) (hR:R0-pr=x-q0*y) (hy:x-q0*y<y)
 (hK:∀ A1 m1 c1 A2 m2 c2 h',h.le h'->m1<=c1->m2<=c2->Mw h' A1 m1 (x/y)->Mw h' A2 m2 (x%y)->K (.tuple #[.slice A1 m1 c1,.slice A2 m2 c2]) h'):
 Z1 prog B bn bc K Aq nq cq Ap np cp Ar nr cr h:=by
 have hyB:=mb.lt (by decide)
 have hy0:=mb.nonneg (by decide)
 have hp0:=mp.nonneg (by decide)
 unfold Z1
 refine ⟨fun l hp=>∃ (Aq Ar:Option Addr) (nq cq nr cr:Nat) (q R:Int),l=[.slice Aq nq cq,.slice Ar nr cr]/\h.le hp/\Mw hp Aq nq q/\nq<=cq/\Mw hp Ar nr R/\nr<=cr/\q<b64^m/\R-pr=x-q*y/\x-q*y<y,fun l hp=>match l with|[.slice A n _,_]=>A8g b64 hp A n|_=>0,⟨_,_,_,_,_,_,_,_,rfl,B4 h,mq,hq,mr,hr,hq0,hR,hy⟩,?_⟩
 rintro A1 n1 c1 A2 n2 c2 hp ⟨Aq,Ar,nq,cq,nr,cr,q,R,hl,lh,mq,hq,mr,hr,hq0,hR,hy⟩
 simp only [C3g,C3l,and_true] at hl
 obtain ⟨⟨rfl,rfl,rfl⟩,rfl,rfl,rfl⟩:=hl
 have hnr:n2<=bn+1:=mr.len_le (by decide) (by
  rw [C3s]
  show R<b64^bn*18446744073709551616
  omega)
 have hnq:n1<=m:=mq.len_le (by decide) hq0
 refine J5 mr (mp.mono lh) (by omega) ⟨_,rfl,?_⟩
 refine B6 (fun h1=>?_) (fun h1=>?_)
 ·rw [Hz] at h1
  have hq1:=mq.nonneg (by decide)
  have hq2:1<=q:=by
   by_cases hc:1<=q
   ·exact hc
   ·obtain rfl:q=0:=by omega
    omega
  refine T1 mr (mb.mono lh) hr hb (by omega) (by omega) ?_
  intro A3 n3 c3 h3 l3 k3 M3
  refine ⟨_,_,_,rfl,Y7 O6 rfl ?_⟩
  intro b hb'
  refine ⟨_,_,_,rfl,?_⟩
  have l4:=Heap.le_put (.cells #[U 1] C1) hb'
  have M1:Mw (h3.put b (.cells #[U 1] C1)) (some ⟨b,0,none⟩) 1 1:=⟨[1],rfl,SlI.new h3 b [1] C1 _,Dig.one (by decide),by simp [Norm],T3 _ _⟩
  refine K8 ((mq.mono l3).mono l4) M1 hq (by omega) hq2 ?_
  intro A5 n5 c5 h5 l5 k5 M5
  refine ⟨_,_,_,rfl,⟨_,_,_,_,_,_,_,_,rfl,B0 lh (B0 l3 (B0 l4 l5)),M5,k5,(M3.mono l4).mono l5,k3,by omega,?_,?_⟩,?_⟩
  ·rw [Int.sub_mul];omega
  ·rw [Int.sub_mul];omega
  ·simp only [Y6 M5,Y6 mq];omega
 ·rw [Hz] at h1
  refine K8 mr (mp.mono lh) hr (by omega) (by omega) ?_
  intro A3 n3 c3 h3 l3 k3 M3
  obtain ⟨d1,d2⟩:=A36 (x:=x) (a:=R-pr) (b:=q) (p:=y) (by rw [hR,C3m y];omega) (by omega) (by omega)
  refine ⟨_,_,_,rfl,hK _ _ _ _ _ _ _ (B0 lh l3) hq k3 ?_ ?_⟩
  ·rw [d1];exact mq.mono l3
  ·rw [d2];exact M3
set_option maxHeartbeats 1000000 in
theorem Qp{N:Nat}(ih:B5k N){x y:Int}{an bn m:Nat}(hm:0<m)(hN:m<=N)(hbm:bn=2*m)(ma:Mw h A an x)(mb:Mw h B bn y)(ha:an<=ac)(hb:bn<=bc)(hl:an<=1000000000)(hl2:bn<=200000000)(htop:9223372036854775808*b64^(bn-1)<=y)(hxy:x<b64^m*y)
 (hK:∀ A1 m1 c1 A2 m2 c2 h',h.le h'->m1<=c1->m2<=c2->Mw h' A1 m1 (x/y)->Mw h' A2 m2 (x%y)->K (.tuple #[.slice A1 m1 c1,.slice A2 m2 c2]) h'):FCall prog S4 #[.slice A an ac,.slice B bn bc] h K:=by
 have hx0:=ma.nonneg (by decide)
 have hy0:=mb.nonneg (by decide)
 have hyB:=mb.lt (by decide)
 have hP:=D6 (B:=b64) (by decide) m
 have hPP:b64^bn=b64^m*b64^m:=by rw [<- C3x];congr 1;omega
 have hPP2:b64^(2*m)=b64^m*b64^m:=by rw [<- C3x];congr 1;omega
 have hPt:b64^(bn-1)=b64^m*b64^(m-1):=by rw [<- C3x];congr 1;omega
 have hyh:=mb.high (k:=m) hb (by omega)
 rw [show bn-m=m by omega] at hyh
 have hyh0:=hyh.nonneg (by decide)
 have hyhB:=hyh.lt (by decide)
 have dy:b64^m*(y/b64^m)+y%b64^m=y:=C3f _ _
 have dy1:=C3o y (b:=b64^m) (by omega)
 have dy2:=C3e y hP
 have dx:b64^m*(x/b64^m)+x%b64^m=x:=C3f _ _
 have dx1:=C3o x (b:=b64^m) (by omega)
 have dx2:=C3e x hP
 have hPm:=D6 (B:=b64) (by decide) (m-1)
 have hyt:9223372036854775808*b64^(m-1)<=y/b64^m:=by
  by_cases hc:9223372036854775808*b64^(m-1)<=y/b64^m
  ·exact hc
  ·have t1:b64^m*(y/b64^m+1)<=b64^m*(9223372036854775808*b64^(m-1)):=C38 (by omega) (by omega)
   have t2:b64^m*(9223372036854775808*b64^(m-1))=9223372036854775808*(b64^m*b64^(m-1)):=by grind
   rw [hPt] at htop
   rw [C4w] at t1
   omega
 obtain ⟨ys,hys,sy,dys,nys,rfl⟩:=mb
 have mb:Mw h B bn (val b64 ys):=⟨ys,hys,sy,dys,nys,rfl⟩
 generalize hyv:val b64 ys=y at *
 refine Pn _ _ _ _ _ _ ?_
 unfold Lq
 have eh:B5 (C4n ((bn:Nat):Int) 2)=(m:Int):=by rw [C4l (by omega),B7 (by omega) (by omega)];omega
 have e2h:B5 (2*(m:Int))=((2*m:Nat):Int):=by rw [B7 (by omega) (by omega)];omega
 simp only [eh,e2h,C35,C48,G9]
 rw [show bn-m=m by omega]
 refine ⟨⟨by omega,by omega⟩,⟨by omega,by omega⟩,Af (Hy sy (m:=m) (c:=bc) (by omega) (by omega)) (dys.take m) (by rw [C3d];omega) rfl (by omega) (by omega) ?_⟩
 intro yn hyn Myl
 have eyl:=(Jp dys m).2
 rw [C3i (by omega),hyv] at eyl
 rw [<- eyl] at Myl
 refine ⟨_,_,_,rfl,B4 h,V5 ma ha ?_⟩
 intro A1 n1 c1 k1 k1' M1
 refine ⟨_,_,_,rfl,?_⟩
 have ht0:=M1.nonneg (by decide)
 refine ⟨fun l hp=>∃ (Aq Ar:Option Addr) (nq cq nr cr:Nat) (q r:Int),l=[.slice Aq nq cq,.slice Ar nr cr]/\h.le hp/\Mw hp Aq nq q/\nq<=cq/\Mw hp Ar nr r/\nr<=cr/\q<b64^m/\x/b64^m=q*(y/b64^m)+r/\x-q*y<y,?_,?_⟩
 ·refine V5 ma ha ?_
  intro A2 n2 c2 k2 k2' M2
  refine ⟨_,_,_,rfl,J5 M2 hyh (by omega) ⟨_,rfl,?_⟩⟩
  have x2a:b64^(2*m)*(x/b64^(2*m))+x%b64^(2*m)=x:=C3f _ _
  have x2b:=C3o x (b:=b64^(2*m)) (by have:=D6 (B:=b64) (by decide) (2*m);omega)
  have x2c:=C3e x (D6 (B:=b64) (by decide) (2*m))
  generalize x/b64^(2*m)=X2 at *
  rw [hPP2] at x2a x2b x2c
  refine B6 (fun h1=>?_) (fun h1=>?_)
  ·rw [Hz] at h1
   have ht:=B22 (x:=x) (top:=x/b64^m) hP (by rw [C4w];omega) (by omega) h1
   refine ih hN M1 hyh k1 (by omega) (by omega) (by omega) hm hyt ht ?_
   intro A3 n3 c3 A4 n4 c4 h3 l3 k3 k4 M3 M4
   have hyp:0<y/b64^m:=by omega
   have d1:=C3f (x/b64^m) (y/b64^m)
   have d2:=C3e (x/b64^m) hyp
   have d0:=M3.nonneg (by decide)
   refine ⟨_,_,_,_,_,_,rfl,_,_,_,_,_,_,_,_,rfl,l3,M3,k3,M4,k4,C3z hyp ht,by rw [C3m];omega,?_⟩
   generalize (x/b64^m)/(y/b64^m)=q at *
   generalize (x/b64^m)%(y/b64^m)=r at *
   generalize x/b64^m=top at *
   generalize y/b64^m=yh at *
   generalize y%b64^m=yl at *
   generalize x%b64^m=xl at *
   generalize b64^m=P at *
   have t1:P*(r+1)<=P*yh:=C38 (by omega) (by omega)
   have t2:x-q*y=P*r+xl-q*yl:=by rw [<- dx,<- dy,<- d1];grind
   have t3:=C3u d0 dy1
   rw [C4w] at t1
   omega
  ·rw [Hz] at h1
   have ht:=B23 (x:=x) (top:=x/b64^m) (yh:=y/b64^m) (X2:=X2) hP (by omega) (by rw [C4w];omega) (by omega)
   refine Y7 O6 rfl ?_
   intro b hb'
   refine ⟨_,_,_,rfl,?_⟩
   have l4:=Heap.le_put (.cells #[U 18446744073709551615] C1) hb'
   refine A2h (v:=18446744073709551615) (SlI.new h b [18446744073709551615] C1 _) hm (by omega) ?_
   intro A5 h5 l5 s5
   refine ⟨_,_,_,rfl,?_⟩
   have l45:=B0 l4 l5
   refine Fu (hyh.mono l45) (Mag.zero (k:=.u64) (B:=b64)) (by omega) (by omega) ?_
   intro A6 n6 c6 h6 l6 k6 M6
   refine ⟨_,_,_,rfl,?_⟩
   have l46:=B0 l45 l6
   refine K8 (M1.mono l46) M6 k1 (by omega) (by rw [C3m];omega) ?_
   intro A7 n7 c7 h7 l7 k7 M7
   have hn7:n7<=an:=M7.len_le (by decide) (by
    have:=ma.lt (by decide)
    have t1:=C3u hyh0 (C3n hP)
    have t2:1*(x/b64^m)<=b64^m*(x/b64^m):=C3a (by omega) ht0
    omega)
   refine ⟨_,_,_,rfl,?_⟩
   refine T1 M7 ((hyh.mono l46).mono l7) k7 (by omega) (by omega) (by omega) ?_
   intro A8 n8 c8 h8 l8 k8 M8
   have hrep:∀ j:Nat,val b64 (C34 j 18446744073709551615)=b64^j-1:=by
    intro j
    induction j with
    | zero=>rfl
    | succ j ihj=>
     rw [List.replicate_succ,val,ihj,C3s]
     show (18446744073709551615:Int)+18446744073709551616*(b64^j-1)=b64^j*18446744073709551616-1
     omega
   have M5:Mw h5 A5 m (b64^m-1):=by
    refine ⟨C34 m 18446744073709551615,by simp,s5,?_,?_,hrep m⟩
    ·intro z hz
     have:=List.eq_of_mem_replicate hz
     subst this;decide
    ·obtain ⟨j,rfl⟩:∃ j,m=j+1:=⟨m-1,by omega⟩
     unfold Norm
     rw [C4g]
     simp
   refine ⟨_,_,_,rfl,_,_,_,_,_,_,_,_,rfl,B0 l46 (B0 l7 l8),((M5.mono l6).mono l7).mono l8,C4d _,M8,k8,by omega,?_,?_⟩
   ·grind
   ·have:(b64^m-1)*y=b64^m*y-y:=by grind
    omega
 ·rintro Aq' nq' cq' Ar' nr' cr' hp ⟨Aq,Ar,nq,cq,nr,cr,q,r,hli,lh,mq,hq,mr,hr,hqP,htq,hqy⟩
  simp only [C3g,C3l,and_true] at hli
  obtain ⟨⟨rfl,rfl,rfl⟩,rfl,rfl,rfl⟩:=hli
  have hq0:=mq.nonneg (by decide)
  have hr0:=mr.nonneg (by decide)
  have hnq:nq'<=m:=mq.len_le (by decide) hqP
  have hnr:nr'<=an:=mr.len_le (by decide) (by
   have:=ma.lt (by decide)
   have t1:=C3u hq0 hyh0
   have t2:1*(x/b64^m)<=b64^m*(x/b64^m):=C3a (by omega) ht0
   omega)
  refine G8 mq (Myl.mono lh) hq (by omega) (by omega) (by omega) ?_
  intro A3 n3 c3 h3 l3 k3 M3
  refine ⟨_,_,_,rfl,Du (ma.mono (B0 lh l3)) ha (by omega) ?_⟩
  intro A4 n4 c4 k4 k4' k4'' M4
  refine ⟨_,_,_,rfl,Fu (mr.mono l3) M4 k4' (by omega) ?_⟩
  intro A5 n5 c5 h5 l5 k5 M5
  have l05:=B0 lh (B0 l3 l5)
  refine ⟨_,_,_,rfl,A26 (q0:=q) (m:=m) hx0 (mb.mono l05) hb hl2 hbm ((mq.mono l3).mono l5) hq (M3.mono l5) ?_ M5 k5 hqP ?_ hqy ?_⟩
  ·rw [hPP]
   have t1:q*(y%b64^m)<=q*b64^m:=C38 (by omega) hq0
   have t2:q*b64^m<b64^m*b64^m:=C3y hqP hP
   omega
  ·generalize x/b64^m=top at *
   generalize y/b64^m=yh at *
   generalize y%b64^m=yl at *
   generalize x%b64^m=xl at *
   generalize b64^m=P at *
   rw [<- dx,<- dy,htq];grind
  ·intro A6 n6 c6 A7 n7 c7 h7 l7 k6 k7 M6 M7
   exact hK _ _ _ _ _ _ _ (B0 l05 l7) k6 k7 M6 M7
end
set_option maxHeartbeats 1000000 in
theorem B8q:∀ N,B5k N:=by
 intro N
 induction N with
 | zero=>intro h K A B ac bc an bn x y h1 _ _ _ _ _ _ h2;omega
 | succ N ih=>
  intro h K A B ac bc an bn x y hN ma mb ha hb hl hl2 hb0 htop hxy hK
  have hx0:=ma.nonneg (by decide)
  have hy0:=mb.nonneg (by decide)
  have hyp:0<y:=by
   have:=D6 (B:=b64) (by decide) (bn-1);omega
  refine Pp _ _ _ _ _ _ ?_
  unfold Ls
  have simple:FCall prog I4 #[.slice A an ac,.slice B bn bc] h (fun r hp=>∃ (t22aA:Option Addr) (t22an:Nat) (t22ac:Nat) (t22bA:Option Addr) (t22bn:Nat) (t22bc:Nat),r= .tuple #[.slice t22aA t22an t22ac,.slice t22bA t22bn t22bc]/\K (.tuple #[.slice t22aA t22an t22ac,.slice t22bA t22bn t22bc]) hp):=by
   refine Cw ma mb ha hb (by omega) hl (by omega) ?_
   intro A1 m1 c1 A2 m2 c2 h' l k1 k2 M1 M2
   exact ⟨_,_,_,_,_,_,rfl,hK _ _ _ _ _ _ _ l k1 k2 M1 M2⟩
  refine B6 (fun h1=>simple) (fun h1=>?_)
  refine H1 (fun h2=>simple) (fun h2=>?_)
  rw [C4k (by omega)] at h2
  obtain ⟨m,hbm⟩:∃ m,bn=2*m:=⟨bn/2,by omega⟩
  have eh:B5 (C4n ((bn:Nat):Int) 2)=(m:Int):=by rw [C4l (by omega),B7 (by omega) (by omega)];omega
  simp only [eh]
  have hP:=D6 (B:=b64) (by decide) m
  have hPP:b64^bn=b64^m*b64^m:=by rw [<- C3x];congr 1;omega
  have dx:b64^m*(x/b64^m)+x%b64^m=x:=C3f _ _
  have dx1:=C3o x (b:=b64^m) (by omega)
  have dx2:=C3e x hP
  rw [hPP] at hxy
  refine V5 ma ha ?_
  intro A1 n1 c1 k1 k1' M1
  refine ⟨_,_,_,rfl,?_⟩
  have ht:x/b64^m<b64^m*y:=by
   by_cases hc:x/b64^m<b64^m*y
   ·exact hc
   ·have t1:b64^m*(b64^m*y)<=b64^m*(x/b64^m):=C38 (by omega) (by omega)
    rw [C4h] at hxy
    omega
  refine Qp ih (by omega) (by omega) hbm M1 mb k1 hb (by omega) hl2 htop ht ?_
  intro A2 n2 c2 A3 n3 c3 h3 l3 k2 k3 M2 M3
  refine ⟨_,_,_,_,_,_,rfl,Du (ma.mono l3) ha (by omega) ?_⟩
  intro A4 n4 c4 k4 k4' k4'' M4
  have d1:=C3f (x/b64^m) y
  have d2:=C3e (x/b64^m) hyp
  have d3:=C3o (x/b64^m) (b:=y) (by omega)
  have hq1:x/b64^m/y<b64^m:=C3z hyp ht
  have hn3:n3<=bn:=M3.len_le (by decide) (by have:=mb.lt (by decide);omega)
  have hn2:n2<=m:=M2.len_le (by decide) hq1
  refine ⟨_,_,_,rfl,Fu M3 M4 k4' (by omega) ?_⟩
  intro A5 n5 c5 h5 l5 k5 M5
  refine ⟨_,_,_,rfl,?_⟩
  have hj:(x/b64^m)%y*b64^m+x%b64^m<b64^m*y:=by
   have t1:b64^m*((x/b64^m)%y+1)<=b64^m*y:=C38 (by omega) (by omega)
   rw [C4w,C3m] at t1
   omega
  have hn5:n5<=bn+m:=M5.len_le (by decide) (by
   have t1:b64^m*y<b64^m*b64^bn:=C5q (mb.lt (by decide)) hP
   rw [Nat.add_comm,C3x];omega)
  refine Qp ih (by omega) (by omega) hbm M5 (mb.mono (B0 l3 l5)) k5 hb (by omega) hl2 htop hj ?_
  intro A6 n6 c6 A7 n7 c7 h7 l7 k6 k7 M6 M7
  have hn6:n6<=m:=M6.len_le (by decide) (C3z hyp hj)
  refine ⟨_,_,_,_,_,_,rfl,Fu ((M2.mono l5).mono l7) M6 hn6 (by omega) ?_⟩
  intro A8 n8 c8 h8 l8 k8 M8
  refine ⟨_,_,_,rfl,?_⟩
  have e1:=C3f ((x/b64^m)%y*b64^m+x%b64^m) y
  have e2:=C3e ((x/b64^m)%y*b64^m+x%b64^m) hyp
  have e3:=C3o ((x/b64^m)%y*b64^m+x%b64^m) (b:=y) (by omega)
  have M7':=M7.mono l8
  have l08:=B0 l3 (B0 l5 (B0 l7 l8))
  generalize ((x/b64^m)%y*b64^m+x%b64^m)/y=q2 at *
  obtain ⟨f1,f2⟩:=A36 (x:=x) (a:=((x/b64^m)%y*b64^m+x%b64^m)%y) (b:=x/b64^m/y*b64^m+q2) (p:=y) (by
   generalize ((x/b64^m)%y*b64^m+x%b64^m)%y=r2 at *
   generalize x/b64^m/y=q1 at *
   generalize x/b64^m%y=r1 at *
   generalize x/b64^m=top at *
   generalize x%b64^m=xl at *
   generalize b64^m=P at *
   grind) e3 e2
  refine hK _ _ _ _ _ _ _ l08 k8 k7 ?_ ?_
  ·rw [f1];exact M8
  ·rw [f2];exact M7'
theorem Vd{ys:List Int}{k t s:Nat}(dy:Dig b64 ys)(hk:ys.length=k+1)(ht:ys.getD k 0=(t:Int))(ht0:t≠0)(hs:s=64-N3 t):s<64/\val b64 ys*2^s<b64^(k+1)/\9223372036854775808*b64^k<=val b64 ys*2^s:=by
 have gt:=N0 dy k
 obtain ⟨hyt,hyt2⟩:=Ax (B:=b64) (by decide) dy (m:=k) hk
 rw [ht] at gt hyt hyt2
 obtain ⟨hb1',hb2'⟩:=Db ht0
 have hb64:N3 t<=64:=Gr (k:=64) (by omega)
 have hbb0:1<=N3 t:=by unfold N3;rw [if_neg ht0];omega
 have hs64:s<64:=by omega
 have hps:0<(2:Int)^s:=C42 (by decide)
 have hsp:=W7 (s:=s) (by omega)
 have hblen:N3 t=64-s:=by omega
 have htl:(t:Int)+1<=2^(64-s):=by
  rw [<- hblen]
  have:((t+1:Nat):Int)<=((2^N3 t:Nat):Int):=by omega
  simpa using this
 have htg:(2:Int)^(63-s)<=t:=by
  have:((2^(N3 t-1):Nat):Int)<=((t:Nat):Int):=by omega
  rw [show N3 t-1=63-s by omega] at this
  simpa using this
 have hp63:(2:Int)^s*2^(63-s)=9223372036854775808:=by
  rw [<- C3x,show s+(63-s)=63 by omega];decide
 have hpm:=D6 (B:=b64) (by decide) k
 refine ⟨hs64,?_,?_⟩
 ·have t2:val b64 ys*2^s<((t:Int)+1)*b64^k*2^s:=C3y hyt hps
  have t3:((t:Int)+1)*b64^k*2^s=((t:Int)+1)*2^s*b64^k:=by grind
  have t4:((t:Int)+1)*2^s*b64^k<=18446744073709551616*b64^k:=by
   apply C3a _ (C3n hpm)
   rw [<- hsp,C3m (2^s)]
   exact C3a htl (C3n hps)
  have t5:b64^(k+1)=18446744073709551616*b64^k:=by rw [C3s b64 k,C3m]
  omega
 ·have t1:(t:Int)*b64^k*2^s<=val b64 ys*2^s:=C3a hyt2 (C3n hps)
  have t2:9223372036854775808*b64^k<=(t:Int)*2^s*b64^k:=by
   apply C3a _ (C3n hpm)
   rw [<- hp63,C3m (t:Int)]
   exact C38 htg (by omega)
  have t3:(t:Int)*2^s*b64^k=(t:Int)*b64^k*2^s:=by grind
  omega
section
variable {h g:Heap} {K:VP} {A B:Option Addr} {ac bc:Nat}
set_option maxHeartbeats 1000000 in
theorem A3b{D V a b:Int}{S sh dn dc vc bn bq:Nat}{pieces t46:Int}{DA VA:Option Addr}(hS:B5 ((B5 (C4n (B5 ((B5 (((bn:Nat):Int)+pieces))-(1:Int))) pieces))*pieces)=(S:Int))
 (hsh:C0 (B5 ((B5 ((64:Int)*(B5 ((S:Int)-((bn:Nat):Int)))))+t46))=(sh:Int)) (hS0:0<S) (hS2:S<=200000000) (hsh2:sh<=100000000000) (hb:h bq=none) (hD:Mw h DA dn D) (hdc:dn<=dc) (hdn:0<dn) (hdl:dn<=2000000000) (hV:Mw h VA S V) (hvc:S<=vc) (hVt:9223372036854775808*b64^(S-1)<=V)
 (hDa:D=a*2^sh) (hVb:V=b*2^sh)
 (hK:∀ A1 m1 c1 A2 m2 c2 h',h.le h'->m1<=c1->m2<=c2->Mw h' A1 m1 (a/b)->Mw h' A2 m2 (a%b)->K (.tuple #[.slice A1 m1 c1,.slice A2 m2 c2]) h'):
 Z6 prog bn K pieces t46 VA S vc DA dn dc (some ⟨bq,0,none⟩) (dn+S) (dn+S) (blk .u64 C1 h bq (C34 (dn+S) 0)):=by
 have hD0:=hD.nonneg (by decide)
 have hDlt:=hD.lt (by decide)
 have hVlt:=hV.lt (by decide)
 have hV0:0<V:=by have:=D6 (B:=b64) (by decide) (S-1);omega
 have hp:0<(2:Int)^sh:=C42 (by decide)
 have hQ:=D6 (B:=b64) (by decide) S
 unfold Z6
 simp only [hS,hsh]
 obtain ⟨nb,hnb⟩:∃ nb,nb=(dn-1)/S:=⟨_,rfl⟩
 have hnb1:nb*S<=dn-1:=by rw [hnb];exact Nat.div_mul_le_self _ _
 have hnb2:dn-1<nb*S+S:=by
  have h1:=C52 (dn-1) S
  have h2:=Nat.mod_lt (dn-1) hS0
  rw [<- hnb,C50] at h1
  omega
 have e1:B5 (B5 (C4n (B5 ((dn:Int)-1)) (S:Int))*(S:Int))=((nb+1:Nat):Int)*S-S:=by
  rw [B7 (n:=(dn:Int)-1) (by omega) (by omega),show (dn:Int)-1=((dn-1:Nat):Int) by omega,<- C40,<- hnb]
  have:nb<=dn-1:=by rw [hnb];exact C5m _ _
  have h3:(nb:Int)*(S:Int)=((nb*S:Nat):Int):=by simp
  rw [B7 (n:=(nb:Int)) (by omega) (by omega),h3,B7 (by omega) (by omega),C5n,Int.add_mul,h3]
  omega
 refine ⟨fun l hp=>∃ (j n c:Nat) (A:Option Addr) (ws:List Int) (r:Int) (g:Heap),l=[.slice A n c,I ((j:Int)*S-S)]/\h.le g/\j*S+ws.length=dn+S/\Dig b64 ws/\Win .u64 hp g bq C1 (some ⟨bq,0,none⟩) [] (C34 (j*S) 0++ws) []/\Mw g A n r/\n<=c/\r=(D/b64^(j*S))%V/\val b64 ws=(D/b64^(j*S))/V,fun l _=>(iAt l 1+S).toNat,⟨nb+1,0,0,none,C34 (dn-1+1-nb*S) 0,0,h,by rw [e1],B4 h,?_,H0 (by decide) _,?_,Mag.zero,C4d _,?_,?_⟩,?_⟩
 ·rw [C3r,C4v,C4t];omega
 ·rw [C4e,show (nb+1)*S+(dn-1+1-nb*S)=dn+S by rw [C4v,C4t];omega]
  exact Win.blk .u64 C1 hb _
 ·have:=D0 (B:=b64) (by decide) (show dn<=(nb+1)*S by rw [C4v,C4t];omega)
  rw [Int.ediv_eq_zero_of_lt hD0 (by omega),Int.zero_emod]
 ·have:=D0 (B:=b64) (by decide) (show dn<=(nb+1)*S by rw [C4v,C4t];omega)
  rw [Int.ediv_eq_zero_of_lt hD0 (by omega),Int.zero_ediv,Be]
 rintro A1 n1 c1 st hp5 ⟨j,n,c,A',ws,r,g,hli,lg,hjl,dws,w,Mr,hnc,hr,hws⟩
 simp only [C3g,C3l,C3p,and_true,true_and] at hli
 obtain ⟨⟨rfl,rfl,rfl⟩,rfl⟩:=hli
 refine B6 (fun h1=>?_) (fun h1=>?_)
 ·obtain ⟨i,rfl⟩:∃ i,j=i+1:=⟨j-1,by
   rcases j with _|j
   ·simp at h1;omega
   ·rfl⟩
  obtain ⟨e,he⟩:∃ e,e=i*S:=⟨_,rfl⟩
  have he1:(i+1)*S=e+S:=by rw [he,C4v,C4t]
  have hst:((i+1:Nat):Int)*(S:Int)-(S:Int)=(e:Int):=by rw [<- C3t,he1];omega
  rw [he1] at hjl w hr hws
  rw [hst]
  have hQe:=D6 (B:=b64) (by decide) e
  refine w.call (V5 (hD.mono lg) hdc ?_)
  intro A2 n2 c2 k2 k2' M2 h2 w2
  refine ⟨_,_,_,rfl,w2.call (Du M2 k2 (by omega) ?_)⟩
  intro A3 n3 c3 k3 k3' k3'' M3 h3 w3
  have hr0:=Mr.nonneg (by decide)
  have hrV:r<V:=by rw [hr];exact C3e _ hV0
  have hn1:n1<=S:=Mr.len_le (by decide) (by omega)
  refine ⟨_,_,_,rfl,w3.call (Fu Mr M3 k3' (by omega) ?_)⟩
  intro A4 n4 c4 g4 l4 k4 M4 h4 w4
  have hD2:D/b64^(e+S)=D/b64^e/b64^S:=by rw [C3x,Int.ediv_ediv_of_nonneg (by omega)]
  rw [hD2] at hr hws
  have dm:=C3f (D/b64^e) (b64^S)
  have bl0:=C3o (D/b64^e) (b:=b64^S) (by omega)
  have bl1:=C3e (D/b64^e) hQ
  generalize hD1:D/b64^e=D1 at *
  have hjlt:r*b64^S+D1%b64^S<b64^S*V:=by
   have t1:b64^S*(r+1)<=b64^S*V:=C38 (by omega) (by omega)
   rw [C4w,C3m] at t1
   omega
  have hn4:n4<=S+S:=M4.len_le (by decide) (by
   have t1:b64^S*V<b64^S*b64^S:=C5q hVlt hQ
   rw [C3x];omega)
  have lg4:=B0 lg l4
  refine ⟨_,_,_,rfl,w4.call (B8q S (C4d _) M4 (hV.mono lg4) k4 hvc (by omega) hS2 hS0 hVt hjlt ?_)⟩
  intro A5 n5 c5 A6 n6 c6 g6 l6 k5 k6 M5 M6 h6 w6
  have hn5:n5<=S:=M5.len_le (by decide) (C3z hV0 hjlt)
  refine ⟨_,_,_,_,_,_,rfl,⟨by omega,by omega⟩,?_⟩
  rw [C35]
  have hzs:C34 (e+S) (0:Int)++ws=C34 e 0++(C34 S 0++ws):=by rw [<- C3h,C4e]
  rw [hzs] at w6
  have hzl:(C34 e (0:Int)++(C34 S 0++ws)).length=dn+S:=by simp only [C36,C3r];omega
  have w7:=w6.sub (l:=e) (m:=dn+S) (c:=dn+S) (by omega) (by omega) (by omega)
  have e7:((C34 e (0:Int)++(C34 S 0++ws)).drop e).take (dn+S-e)=C34 S 0++ws:=by
   rw [List.drop_left' (by simp),C39 (by simp only [C36,C3r];omega)]
  rw [e7] at w7
  obtain ⟨ds,hdsl,sds,dds,nds,hdsv⟩:=M5
  refine En O6 w7 (by simp only [C36,C3r];omega) (sds.mono w6.le) hdsl (by simp only [C36,C3r];omega) ?_
  intro h8 w8
  rw [C5k (by simp;omega),C47,<- C3h ds] at w8
  have hdl2:(ds++C34 (S-ds.length) (0:Int)).length=S:=by simp;omega
  have w9:=w6.whole (l:=e) (m:=dn+S) (by omega) (by omega) (by rw [C36,hdl2];omega) w8
  rw [C53 (by simp),C3j (show (C34 e (0:Int)++(C34 S 0++ws)).length<=dn+S by omega),C3w] at w9
  have e8:B5 ((e:Int)-(S:Int))=((i:Nat):Int)*S-S:=by
   rw [B7 (by omega) (by omega),he,C3t]
  have dmr:=C3f (r*b64^S+D1%b64^S) V
  have dmr1:=C3o (r*b64^S+D1%b64^S) (b:=V) (by omega)
  have dmr2:=C3e (r*b64^S+D1%b64^S) hV0
  have dm2:=C3f (D1/b64^S) V
  rw [<- hr,<- hws] at dm2
  obtain ⟨f1,f2⟩:=A36 (x:=D1) (a:=(r*b64^S+D1%b64^S)%V) (b:=val b64 ds+b64^S*val b64 ws) (p:=V) (by
   rw [hdsv]
   generalize (r*b64^S+D1%b64^S)%V=r2 at *
   generalize hq2:(r*b64^S+D1%b64^S)/V=q2 at *
   generalize D1%b64^S=bl at *
   generalize D1/b64^S=D2 at *
   generalize b64^S=Q at *
   generalize val b64 ws=W at *
   grind) dmr1 dmr2
  refine ⟨_,rfl,?_⟩
  rw [e8]
  refine ⟨⟨i,_,_,_,(ds++C34 (S-ds.length) 0)++ws,_,g6,rfl,B0 lg4 l6,?_,?_,?_,M6,k6,?_,?_⟩,?_⟩
  ·rw [C36,hdl2];omega
  ·exact (dds.append (H0 (by decide) _)).append dws
  ·rw [<- he];exact w9
  ·rw [<- he,hD1,f2]
  ·rw [<- he,hD1,f1,F8,hdl2,Bp]
  ·simp only [iAt,C3c,C3b]
   rw [<- C3t,<- he]
   omega
 ·obtain rfl:j=0:=by
   rcases j with _|j
   ·rfl
   ·rw [<- C3t,C4v,C4t] at h1
    omega
  rw [Nat.zero_mul,List.replicate_zero,C4j] at w
  rw [Nat.zero_mul,Int.pow_zero,Int.ediv_one] at hr hws
  rw [Nat.zero_mul,C4z] at hjl
  have hb0:0<b:=by
   by_cases hc:0<b
   ·exact hc
   ·have:=C3a (show b<=0 by omega) (C3n hp);omega
  obtain ⟨f1,f2⟩:=A36 (x:=D) (a:=(a%b)*2^sh) (b:=a/b) (p:=V) (by
   have:=C3f a b
   rw [hDa,hVb]
   conv=>rhs;rw [<- this]
   grind) (C3u (C3o _ (by omega)) (by omega)) (by rw [hVb];exact C3y (C3e _ hb0) hp)
  refine Af w.sl dws hjl.symm hws (by omega) (by omega) ?_
  intro m2 k2 M2
  refine ⟨_,_,_,rfl,?_⟩
  refine Es (Mr.mono w.le) (by have:=Mr.len_le (j:=S) (by decide) (by have:=C3e D hV0;omega);omega) (by omega) ?_
  intro A3 n3 c3 h3 l3 k3 M3
  rw [hr,f2,Int.mul_ediv_cancel _ (by omega)] at M3
  rw [f1] at M2
  exact ⟨_,_,_,rfl,hK _ _ _ _ _ _ _ (B0 lg (B0 w.le l3)) k2 k3 (M2.mono l3) M3⟩
set_option maxHeartbeats 1000000 in
theorem No{x y:Int}{an bn:Nat}(ma:Mw h A an x)(mb:Mw h B bn y)(ha:an<=ac)(hbc:bn<=bc)(hl:an<=800000000)(hl2:bn<=100000000)(ha0:0<an)(hb0:0<bn)
 (hK:∀ A1 m1 c1 A2 m2 c2 h',h.le h'->m1<=c1->m2<=c2->Mw h' A1 m1 (x/y)->Mw h' A2 m2 (x%y)->K (.tuple #[.slice A1 m1 c1,.slice A2 m2 c2]) h'):FCall prog Bj #[.slice A an ac,.slice B bn bc] h K:=by
 have hx0:=ma.nonneg (by decide)
 have hxz:=ma.len_zero (by decide)
 have hxlt:=ma.lt (by decide)
 refine Pq _ _ _ _ _ _ ?_
 unfold Lu Gw
 refine ⟨fun l hp=>hp=h/\∃ p:Nat,l=[I p]/\0<p/\p<=bn,fun l _=>bn-(iAt l 0).toNat,⟨rfl,1,rfl,by omega,by omega⟩,?_⟩
 rintro pieces hp ⟨rfl,p,hli,hp0,hpb⟩
 obtain rfl:=sI1 hli
 have e1:B5 (C4n (B5 (B5 ((bn:Int)+(p:Int))-1)) (p:Int))=(((bn+p-1)/p:Nat):Int):=by
  rw [B7 (n:=(bn:Int)+p) (by omega) (by omega),B7 (n:=(bn:Int)+p-1) (by omega) (by omega),show (bn:Int)+p-1=((bn+p-1:Nat):Int) by omega,<- C40]
  have:(bn+p-1)/p<=bn+p-1:=C5m _ _
  generalize (bn+p-1)/p=q at *
  rw [B7 (by omega) (by omega)]
 refine B6 (fun h1=>by omega) (fun _=>?_)
 obtain ⟨S,hS⟩:∃ S,S=(bn+p-1)/p*p:=⟨_,rfl⟩
 have hS1:bn<=S/\S<=bn+p-1:=by
  have h1:=C52 (bn+p-1) p
  have h2:=Nat.mod_lt (bn+p-1) hp0
  rw [C50,<- hS] at h1
  omega
 have e2:B5 ((B5 (C4n (B5 (B5 ((bn:Int)+(p:Int))-1)) (p:Int)))*(p:Int))=(S:Int):=by
  rw [e1,<- C3t,<- hS,B7 (by omega) (by omega)]
 refine B6 (fun h1=>?_) (fun h1=>?_)
 ·rw [e1] at h1
  have h2:80<=(bn+p-1)/p:=by omega
  rw [Nat.le_div_iff_mul_le hp0] at h2
  have e3:B5 ((p:Int)*2)=((p*2:Nat):Int):=by rw [B7 (by omega) (by omega)];omega
  rw [e3]
  exact ⟨⟨rfl,_,rfl,by omega,by omega⟩,by simp only [iAt,C3b];omega⟩
 ·refine B6 (fun h1=>by omega) (fun _=>?_)
  obtain ⟨k,hk⟩:∃ k,bn=k+1:=⟨bn-1,by omega⟩
  have mb':=mb
  obtain ⟨ys,hys,sy,dy,ny,rfl⟩:=mb
  have hys':ys.length=k+1:=by omega
  have gt:=N0 dy k
  have ht0:=Zs hys' ny
  have e3:B5 ((bn:Int)-1)=(k:Int):=by rw [B7 (by omega) (by omega)];omega
  rw [e3]
  subst hys
  refine sy.load rfl (by omega) (by omega) ?_
  rw [C35]
  obtain ⟨t,ht⟩:∃ t:Nat,ys.getD k 0=t:=⟨(ys.getD k 0).toNat,by omega⟩
  rw [ht] at gt ht0 ⊢
  refine Q3 (by omega) ⟨_,rfl,?_⟩
  obtain ⟨s,hs⟩:∃ s,s=64-N3 t:=⟨_,rfl⟩
  rw [<- hs]
  obtain ⟨hs64,hY1,hY2⟩:=Vd dy hys' ht (by omega) hs
  simp only [e2]
  obtain ⟨sh,hsh⟩:∃ sh,sh=64*(S-ys.length)+s:=⟨_,rfl⟩
  have e4:C0 (B5 (B5 (64*B5 ((S:Int)-(ys.length:Int)))+(s:Int)))=(sh:Int):=by
   rw [B7 (n:=(S:Int)-(ys.length:Int)) (by omega) (by omega),B7 (n:=64*((S:Int)-(ys.length:Int))) (by omega) (by omega),B7 (by omega) (by omega),C2 (by omega) (by omega)]
   omega
  simp only [e4]
  have hpow:(2:Int)^sh=2^s*b64^(S-ys.length):=by rw [hsh,C3x,Is,C3m]
  have hpS:=D6 (B:=b64) (by decide) (S-ys.length)
  have hps:0<(2:Int)^s:=C42 (by decide)
  have hpsh:0<(2:Int)^sh:=C42 (by decide)
  have hVe:val b64 ys*2^sh=val b64 ys*2^s*b64^(S-ys.length):=by rw [hpow,C4h]
  have hV1:val b64 ys*2^sh<b64^S:=by
   have t1:val b64 ys*2^s*b64^(S-ys.length)<b64^(k+1)*b64^(S-ys.length):=C3y hY1 hpS
   rw [<- C3x,show k+1+(S-ys.length)=S by omega] at t1
   omega
  have hV2:9223372036854775808*b64^(S-1)<=val b64 ys*2^sh:=by
   have t1:9223372036854775808*b64^k*b64^(S-ys.length)<=val b64 ys*2^s*b64^(S-ys.length):=C3a hY2 (C3n hpS)
   rw [C4h,<- C3x,show k+(S-ys.length)=S-1 by omega] at t1
   omega
  refine S0 mb' hbc (by omega) (by omega) ?_
  intro A1 n1 c1 h1 l1 k1 M1
  refine ⟨_,_,_,rfl,?_⟩
  have hn1:n1=S:=by
   have q1:=M1.len_le (by decide) hV1
   have q2:=M1.lt (by decide)
   by_cases hc:n1=S
   ·exact hc
   ·have:=D0 (B:=b64) (by decide) (show n1<=S-1 by omega)
    have:=D6 (B:=b64) (by decide) (S-1)
    omega
  subst hn1
  refine S0 (ma.mono l1) ha (by omega) (by omega) ?_
  intro A2 n2 c2 h2 l2 k2 M2
  refine ⟨_,_,_,rfl,?_⟩
  have hn2:n2<=an+(1+(n1-ys.length)):=M2.len_le (by decide) (by
   have t1:x*2^sh<b64^an*2^sh:=C3y hxlt hpsh
   have t2:(2:Int)^sh<=b64^(1+(n1-ys.length)):=by
    rw [hpow,C3x]
    apply C3a _ (C3n hpS)
    have:=D0 (B:=2) (by decide) (show s<=64 by omega)
    have e:(2:Int)^64=18446744073709551616:=by decide
    show (2:Int)^s<=b64^1
    rw [C3s,Int.pow_zero]
    show (2:Int)^s<=1*18446744073709551616
    omega
   have t3:b64^an*2^sh<=b64^an*b64^(1+(n1-ys.length)):=C38 t2 (C3n (D6 (by decide) an))
   rw [C3x b64 an]
   omega)
  have hn2':0<n2:=by
   rcases Nat.eq_zero_or_pos n2 with h0|h0
   ·have:=(M2.len_zero (by decide)).2 h0
    rcases Int.mul_eq_zero.1 this with h3|h3<;>omega
   ·exact h0
  have e5:B5 ((n2:Int)+(n1:Int))=((n2+n1:Nat):Int):=by rw [B7 (by omega) (by omega)];omega
  rw [e5]
  refine J3 O6 (by omega) (by omega) (by omega) ?_
  intro bq hbq
  rw [C35]
  refine ⟨_,_,_,rfl,?_⟩
  refine B6 (fun h1=>by omega) (fun _=>?_)
  refine A3b (D:=x*2^sh) (V:=val b64 ys*2^sh) (sh:=sh) (S:=n1) e2 e4 (by omega) (by omega) (by omega) hbq M2 k2 hn2' (by omega) (M1.mono l2) k1 hV2 rfl rfl ?_
  intro A3 n3 c3 A4 n4 c4 h4 l4 k3 k4 M3 M4
  exact hK _ _ _ _ _ _ _ (B0 l1 (B0 l2 l4)) k3 k4 M3 M4
theorem R3{x y:Int}{an bn:Nat}(ma:Mw h A an x)(mb:Mw h B bn y)(ha:an<=ac)(hbc:bn<=bc)(hy:y≠0)(hl:an<=800000000)(hl2:bn<=100000000)
 (hK:∀ A1 m1 c1 A2 m2 c2 h',h.le h'->m1<=c1->m2<=c2->Mw h' A1 m1 (x/y)->Mw h' A2 m2 (x%y)->K (.tuple #[.slice A1 m1 c1,.slice A2 m2 c2]) h'):FCall prog O2 #[.slice A an ac,.slice B bn bc] h K:=by
 refine Sw _ _ _ _ _ _ ?_
 unfold Pb
 have simple:FCall prog I4 #[.slice A an ac,.slice B bn bc] h (fun r hp=>∃ (t22aA:Option Addr) (t22an:Nat) (t22ac:Nat) (t22bA:Option Addr) (t22bn:Nat) (t22bc:Nat),r= .tuple #[.slice t22aA t22an t22ac,.slice t22bA t22bn t22bc]/\K (.tuple #[.slice t22aA t22an t22ac,.slice t22bA t22bn t22bc]) hp):=by
  refine Cw ma mb ha hbc hy (by omega) (by omega) ?_
  intro A1 m1 c1 A2 m2 c2 h' l k1 k2 M1 M2
  exact ⟨_,_,_,_,_,_,rfl,hK _ _ _ _ _ _ _ l k1 k2 M1 M2⟩
 refine B6 (fun h1=>B6 (fun h2=>?_) (fun _=>simple)) (fun _=>simple)
 rw [B7 (by omega) (by omega)] at h2
 refine No ma mb ha hbc hl hl2 (by omega) (by omega) ?_
 intro A1 m1 c1 A2 m2 c2 h' l k1 k2 M1 M2
 exact ⟨_,_,_,_,_,_,rfl,hK _ _ _ _ _ _ _ l k1 k2 M1 M2⟩
end
def TZ(x k:Nat):Prop:=∃ m,x=2^k*(2*m+1)
theorem TZ.ex:∀ {x:Nat},x≠0->∃ k,TZ x k:=by
 intro x
 induction x using Nat.strongRecOn with
 | _ x ih=>
  intro h
  rcases Nat.mod_two_eq_zero_or_one x with h0|h0
  ·obtain ⟨k,m,hm⟩:=ih (x/2) (by omega) (by omega)
   refine ⟨k+1,m,?_⟩
   rw [Nat.pow_succ,C50 (2^k),C5c,<- hm];omega
  ·exact ⟨0,x/2,by omega⟩
theorem TZ.lt{x k n:Nat}(h:TZ x k)(hx:x<2^n):k<n:=by
 obtain ⟨m,rfl⟩:=h
 have h1:2^k*1<=2^k*(2*m+1):=Nat.mul_le_mul_left _ (by omega)
 exact (Nat.pow_lt_pow_iff_right (a:=2) (by decide)).1 (by omega)
theorem A89{a u v:Nat}:(2^a*u) ||| (2^a*v)=2^a*(u ||| v):=by
 apply Nat.eq_of_testBit_eq
 intro i
 simp only [Nat.testBit_or,Nat.testBit_two_pow_mul,Bool.and_or_distrib_left]
theorem B48{u v:Nat}(h:u%2=1\/v%2=1):(u ||| v)%2=1:=by simpa using h
theorem TZ.or'{x y a b:Nat}(hx:TZ x a)(hy:TZ y b)(hab:a<=b):TZ (x ||| y) a/\TZ (y ||| x) a:=by
 obtain ⟨m,rfl⟩:=hx
 obtain ⟨n,rfl⟩:=hy
 obtain ⟨d,rfl⟩:∃ d,b=a+d:=⟨b-a,by omega⟩
 rw [C5b,C5c,A89,A89]
 have h1:=B48 (u:=2*m+1) (v:=2^d*(2*n+1)) (.inl (by omega))
 have h2:=B48 (u:=2^d*(2*n+1)) (v:=2*m+1) (.inr (by omega))
 exact ⟨⟨_/2,by rw [<- C52 (_ ||| _) 2,h1]⟩,⟨_/2,by rw [<- C52 (_ ||| _) 2,h2]⟩⟩
theorem TZ.or{x y a b:Nat}(hx:TZ x a)(hy:TZ y b):TZ (x ||| y) (min a b):=by
 by_cases h:a<=b
 ·rw [C3i h];exact (hx.or' hy h).1
 ·rw [C5i (by omega)];exact (hy.or' hx (by omega)).2
theorem TZ.bit{x k:Nat}(h:TZ x k)(hx:x<2^64):x &&& (2^64-x)=2^k:=by
 obtain ⟨m,rfl⟩:=h
 have hp:0<2^k:=C4i (by decide)
 have e1:2^k*(2*m+1)=2^k*(2*m)+(2^k-1)+1:=by rw [Nat.mul_add,C41];omega
 apply Nat.eq_of_testBit_eq
 intro i
 rw [Nat.testBit_and]
 have e2:(2^64-2^k*(2*m+1)).testBit i=(decide (i<64) && !(2^k*(2*m)+(2^k-1)).testBit i):=by
  rw [e1];exact Nat.testBit_two_pow_sub_succ (by omega) i
 rw [e2,Nat.testBit_two_pow_mul_add _ (by omega),Nat.testBit_two_pow_mul,Nat.testBit_two_pow]
 by_cases h1:i<k
 ·simp [h1,show ¬ i>=k by omega,show ¬ k=i by omega]
 ·by_cases h2:i=k
  ·subst h2
   have h64:i<64:=TZ.lt ⟨m,rfl⟩ hx
   simp [h64,Nat.testBit_zero]
  ·obtain ⟨d,hd⟩:∃ d,i-k=d+1:=⟨i-k-1,by omega⟩
   rw [if_neg h1,hd,Nat.testBit_succ,Nat.testBit_succ,show (2*m+1)/2=m by omega,show 2*m/2=m by omega]
   simp only [show ¬ k=i by omega,decide_false]
   cases m.testBit d<;>simp
theorem Wj{o k:Nat}(h:o%2=1):Nat.Coprime (2^k) o:=Nat.Coprime.pow_left k (by unfold Nat.Coprime;rw [Nat.gcd_rec,h];rfl)
theorem B6m{x y a b m:Nat}(hx:x=2^a*(2*m+1))(hy:TZ y b):C4p x y=2^(min a b)*C4p (2*m+1) y:=by
 obtain ⟨n,rfl⟩:=hy
 subst hx
 have e0:C4p (2*m+1) (2^b*(2*n+1))=C4p (2*m+1) (2*n+1):=C44 (2*n+1) (Wj (by omega))
 rw [e0]
 by_cases h:a<=b
 ·obtain ⟨d,rfl⟩:∃ d,b=a+d:=⟨b-a,by omega⟩
  rw [C3i h,C5b,C5c,Nat.gcd_mul_left,C44 _ (Wj (by omega))]
 ·obtain ⟨d,rfl⟩:∃ d,a=b+d:=⟨a-b,by omega⟩
  rw [C5i (by omega),C5b,C5c,Nat.gcd_mul_left,Nat.Coprime.gcd_mul_left_cancel _ (Wj (by omega))]
def Zp(k:Nat):Nat:=(2^k*285870213051353865%18446744073709551616)/2^58
def Gtz(h:Heap):Prop:=∀ k,k<64->h.cell? (Addr.add ⟨3,0,none⟩ (Zp k*1))=some (Y k)
theorem Gtz.mono{h h':Heap}(g:Gtz h)(l:h.le h'):Gtz h':=fun k hk=>B9 l (g k hk)
section
variable {h g:Heap} {K:VP} {A B:Option Addr} {ac bc:Nat}
theorem Ip{x k:Nat}(gl:Gtz h)(tz:TZ x k)(hx:x<18446744073709551616)(hK:K (I k) h):FCall prog L4 #[U x] h K:=by
 have hk:=tz.lt (n:=64) hx
 have hx0:x≠0:=by
  obtain ⟨m,rfl⟩:=tz
  have:0<2^k:=C4i (by decide)
  have:=Nat.mul_pos this (show 0<2*m+1 by omega)
  omega
 refine Jk _ ?_
 unfold Fc
 refine D9 (fun e=>by omega) (fun _=>?_)
 have e1:C0 (0-(x:Int))=((2^64-x:Nat):Int):=by
  rw [E8];omega
 have e2:Nr .u64 (x:Int) ((2^64-x:Nat):Int)=((2^k:Nat):Int):=by
  rw [A9w (by omega) (by omega),C35,C35,tz.bit hx]
 have e3:C5g (C0 (((2^k:Nat):Int)*285870213051353865)) (2^(min ((58:Int)).toNat 64))=((Zp k:Nat):Int):=by
  show C5g _ (2^(min 58 64))=_
  rw [B2e (by decide),E8]
  unfold Zp
  rw [C4y,C5l,C3t]
  rfl
 rw [e1,e2,e3,C35]
 have hi:Zp k<64:=by
  unfold Zp
  have:(2^k*285870213051353865)%18446744073709551616<18446744073709551616:=Nat.mod_lt _ (by decide)
  exact Nat.div_lt_of_lt_mul (by omega)
 refine ⟨⟨by omega,by omega⟩,_,gl k hk,?_⟩
 rw [B7 (by omega) (by omega)]
 exact hK
theorem A0l{x y:Nat}(gl:Gtz h)(hx:x<18446744073709551616)(hy:y<18446744073709551616)(hK:K (U (C4p x y:Nat)) h):FCall prog Ni #[U x,U y] h K:=by
 refine A3g _ _ ?_
 unfold A52
 refine D9 (fun e=>?_) (fun e=>?_)
 ·obtain rfl:x=0:=by omega
  rw [A3a (by omega) (by omega)]
  simpa using hK
 refine D9 (fun e'=>?_) (fun e'=>?_)
 ·obtain rfl:y=0:=by omega
  rw [A3a (by omega) (by omega)]
  simpa using hK
 obtain ⟨a,ta⟩:=TZ.ex (x:=x) (by omega)
 obtain ⟨b,tb⟩:=TZ.ex (x:=y) (by omega)
 have ha:=ta.lt (n:=64) hx
 have hb:=tb.lt (n:=64) hy
 rw [A3a (by omega) (by omega),C35,C35]
 have hxy:x ||| y<18446744073709551616:=Nat.or_lt_two_pow (n:=64) hx hy
 refine Ip gl (ta.or tb) hxy ⟨_,rfl,?_⟩
 refine Ip gl ta hx ⟨_,rfl,?_⟩
 refine B6 (fun h1=>by omega) (fun _=>?_)
 obtain ⟨m,hm⟩:=ta
 have hg:=B6m hm tb
 have e1:C5g (x:Int) (2^(min ((a:Int)).toNat 64))=((2*m+1:Nat):Int):=by
  rw [C35,B2e (by omega),show ((2:Int)^a)=((2^a:Nat):Int) by simp,<- C4y,hm,Nat.mul_div_cancel_left _ (C4i (by decide))]
 rw [e1]
 have hm64:2*m+1<=x:=by
  rw [hm];exact Nat.le_mul_of_pos_left _ (C4i (by decide))
 refine ⟨fun l hp=>hp=h/\∃ u v:Nat,l=[U u,U v]/\u%2=1/\u<18446744073709551616/\v<18446744073709551616/\C4p u v=C4p (2*m+1) y,fun l _=>(iAt l 0+iAt l 1).toNat,⟨rfl,2*m+1,y,rfl,by omega,by omega,hy,rfl⟩,?_⟩
 rintro x1 y1 hp2 ⟨rfl,u,v,hl,hu,hu2,hv2,huv⟩
 simp only [C3g,C3p,and_true,true_and] at hl
 obtain ⟨rfl,rfl⟩:=hl
 refine H1 (fun h1=>?_) (fun h1=>?_)
 ·obtain ⟨c,tc⟩:=TZ.ex (x:=v) (by omega)
  have hc:=tc.lt (n:=64) hv2
  refine Ip gl tc hv2 ⟨_,rfl,?_⟩
  refine B6 (fun h1=>by omega) (fun _=>?_)
  obtain ⟨n,hn⟩:=tc
  have e2:C5g (v:Int) (2^(min ((c:Int)).toNat 64))=((2*n+1:Nat):Int):=by
   rw [C35,B2e (by omega),show ((2:Int)^c)=((2^c:Nat):Int) by simp,<- C4y,hn,Nat.mul_div_cancel_left _ (C4i (by decide))]
  have hn64:2*n+1<=v:=by
   rw [hn];exact Nat.le_mul_of_pos_left _ (C4i (by decide))
  have hg2:C4p u (2*n+1)=C4p u v:=by
   rw [hn,C44 _ (Wj hu)]
  rw [e2]
  refine B6 (fun h2=>?_) (fun h2=>?_)
  ·have e3:C0 ((u:Int)-((2*n+1:Nat):Int))=((u-(2*n+1):Nat):Int):=by rw [C2 (by omega) (by omega)];omega
   rw [e3]
   refine ⟨⟨rfl,_,_,rfl,by omega,by omega,by omega,?_⟩,?_⟩
   ·rw [Nat.gcd_sub_self_right (by omega),Nat.gcd_comm,hg2,huv]
   ·simp only [iAt,C3b,C3c];omega
  ·have e3:C0 (((2*n+1:Nat):Int)-(u:Int))=((2*n+1-u:Nat):Int):=by rw [C2 (by omega) (by omega)];omega
   rw [e3]
   refine ⟨⟨rfl,_,_,rfl,by omega,by omega,by omega,?_⟩,?_⟩
   ·rw [Nat.gcd_sub_self_right (by omega),hg2,huv]
   ·simp only [iAt,C3b,C3c];omega
 ·refine B6 (fun h1=>by omega) (fun _=>?_)
  obtain rfl:v=0:=by omega
  rw [Nat.gcd_zero_right] at huv
  rw [C35,C3i (show min a b<=64 by omega)]
  have e4:(u:Int)*2^(min a b)=((C4p x y:Nat):Int):=by
   rw [hg,<- huv,C3t,C3m];simp
  have hle:C4p x y<=x:=Nat.le_of_dvd (by omega) (Nat.gcd_dvd_left x y)
  rw [e4,C2 (by omega) (by omega)]
  exact hK
end
theorem A7j{xs:List Int}(d:Dig b64 xs){k s:Nat}(hl:xs.length<=k+2)(hs:s<=64):val b64 xs/(b64^k*2^(64-s))=xs.getD (k+1) 0*2^s+xs.getD k 0/2^(64-s):=by
 have h1:=C5 b64 xs (k+1)
 have h2:=C5 b64 xs k
 rw [C39 (show xs.length<=k+1+1 by omega)] at h1
 have hp:=D6 (B:=b64) (by decide) k
 have hpp:0<(2:Int)^(64-s):=C42 (by decide)
 have hsp:=W7 (s:=s) hs
 have h3:=C7 (by decide) (d.take k)
 have h4:=K6 (by decide) (d.take k)
 have h5:=D0 (B:=b64) (by decide) (show (xs.take k).length<=k by rw [C3d];omega)
 rw [<- Int.ediv_ediv_of_nonneg (C3n hp)]
 have e1:val b64 xs/b64^k=xs.getD k 0+18446744073709551616*xs.getD (k+1) 0:=by
  refine (A36 (a:=val b64 (xs.take k)) ?_ h3 (by omega)).1
  rw [h1,h2,C3s]
  show _=val b64 (xs.take k)+_+b64^k*18446744073709551616*_
  grind
 rw [e1,<- hsp,C3m (2^s),C4h,Int.add_mul_ediv_left _ _ (by omega),C3m (2^s)]
 omega
section
variable {h g:Heap} {K:VP} {A B:Option Addr} {ac bc:Nat}
def B7e(a b u0 u1 v0 v1:Int)(odd:Bool):Prop:=(0<=u0/\u0<18446744073709551616)/\(0<=u1/\u1<18446744073709551616)/\(0<=v0/\v0<18446744073709551616)/\(0<=v1/\v1<18446744073709551616)/\(v0≠0->Leh a b u0 v0 u1 v1 (Iv a b u0 v0 odd) (Iu a b u1 v1 odd))
theorem B2d{a b F S W t20 t26 t33:Int}(hF:F=bor .u64 (C0 (t26*2^(min (C0 t20).toNat 64))) (C5g t33 (2^(min (C0 ((64:Int)-(C0 t20))).toNat 64))))(hW:0<W)(hFa:F=a/W)(hSb:S=b/W)(hb0:0<=b)(hba:b<=a)(hF64:F<18446744073709551616)
 (hK:∀ u0 u1 v0 v1 odd,B7e a b u0 u1 v0 v1 odd->K (.agg #[U u0,U u1,U v0,U v1,.bool odd]) h):Gv prog K t20 t26 t33 S h:=by
 have da:=C3f a W
 have db:=C3f b W
 have da1:=C3o a (b:=W) (by omega)
 have da2:=C3e a hW
 have db1:=C3o b (b:=W) (by omega)
 have db2:=C3e b hW
 have hS0:0<=S:=by rw [hSb];exact C5p hb0 (by omega)
 have hSF:S<=F:=by rw [hSb,hFa];exact Int.ediv_le_ediv hW hba
 unfold Gv
 rw [<- hF]
 refine ⟨fun l hp=>hp=h/\∃ (first second u2 v2 u0 u1 v0 v1:Int) (odd:Bool),l=[U first,U second,U u2,U v2,U u0,U u1,U v0,U v1,.bool odd]/\LS F S first second u0 v0 u1 v1 u2 v2 odd/\B7e a b u0 u1 v0 v1 odd/\u2<=F/\v2<=(if F=0 then 1 else F),fun l _=>(iAt l 1).toNat,⟨rfl,_,_,_,_,_,_,_,_,_,rfl,LS.init hS0 hSF,⟨by omega,by omega,by omega,by omega,fun e=>absurd rfl e⟩,by omega,by split<;>omega⟩,?_⟩
 rintro first second u2 v2 u0 u1 v0 v1 odd hp ⟨rfl,first',second',u2',v2',u0',u1',v0',v1',odd',hl,ls,st,hu2,hv2⟩
 simp only [C3g,C3p,Value.bool.injEq,and_true,true_and] at hl
 obtain ⟨rfl,rfl,rfl,rfl,rfl,rfl,rfl,rfl,rfl⟩:=hl
 have hpos:=ls.v2pos
 have hord:=ls.ord
 have hFe:=ls.hF
 refine B6 (fun h1=>?_) (fun _=>hK _ _ _ _ _ st)
 have hs1:1<=second:=by omega
 have hb2:=ls.bound2 hs1
 have hfF:first<=F:=by
  have t1:1*first<=v2*first:=C3a (by omega) (by omega)
  have t2:=C3u (show 0<=v1 by omega) hord.1
  omega
 rw [C2 (n:=first-second) (by omega) (by omega),C2 (n:=v1+v2) (by omega) (by omega)]
 refine B6 (fun h2=>?_) (fun _=>hK _ _ _ _ _ st)
 refine B6 (fun e=>by omega) (fun _=>?_)
 refine B6 (fun e=>by omega) (fun _=>?_)
 rw [C4k (by omega),C4l (by omega)]
 have ls2:=ls.step (by omega) (by omega)
 have hb3:=ls2.bound hs1
 have hq0:0<=first/second:=C5p (by omega) (by omega)
 have hq1:first/second<=first:=Int.ediv_le_self _ (by omega)
 have hqu:=C3u hq0 (show 0<=u2 by omega)
 have hqv:=C3u hq0 (show 0<=v2 by omega)
 rw [C2 (n:=first/second) (by omega) (by omega),C2 (n:=first/second*u2) (by omega) (by omega),C2 (n:=first/second*v2) (by omega) (by omega),C2 (n:=u1+first/second*u2) (by omega) (by omega),C2 (n:=v1+first/second*v2) (by omega) (by omega)]
 refine ⟨⟨rfl,_,_,_,_,_,_,_,_,_,rfl,ls2,⟨⟨by omega,st.2.1.2⟩,⟨by omega,by omega⟩,⟨by omega,st.2.2.2.1.2⟩,⟨by omega,by omega⟩,fun e=>ls2.leh e hW (al:=a%W) (bl:=b%W) ?_ ?_ ⟨da1,da2⟩ ⟨db1,db2⟩⟩,by omega,by split<;>omega⟩,?_⟩
 ·rw [hFa,C3m];omega
 ·rw [hSb,C3m];omega
 ·have:=C3e first (show 0<second by omega)
  have:=C3o first (show second≠0 by omega)
  simp only [iAt,C3c,C3b];omega
set_option maxHeartbeats 1000000 in
theorem Wp{a b:Int}{an bn:Nat}(ma:Mw h A an a)(mb:Mw h B bn b)(hba:b<=a)(hb2:2<=bn)(hl:an<=1000000000)
 (hK:∀ u0 u1 v0 v1 odd,B7e a b u0 u1 v0 v1 odd->K (.agg #[U u0,U u1,U v0,U v1,.bool odd]) h):FCall prog Jb #[.slice A an ac,.slice B bn bc] h K:=by
 have hb0:=mb.nonneg (by decide)
 have hbn:bn<=an:=mb.len_le (by decide) (C5f hba (ma.lt (by decide)))
 obtain ⟨k,rfl⟩:∃ k,an=k+2:=⟨an-2,by omega⟩
 obtain ⟨xs,hxl,sx,dx,nx,rfl⟩:=ma
 obtain ⟨ys,hyl,sy,dy,ny,rfl⟩:=mb
 refine A11 _ _ _ _ _ _ ?_
 unfold A12
 have e1:B5 (((k+2:Nat):Int)-1)=((k+1:Nat):Int):=by rw [B7 (by omega) (by omega)];omega
 have e2:B5 (((k+2:Nat):Int)-2)=(k:Int):=by rw [B7 (by omega) (by omega)];omega
 simp only [e1,e2]
 have gt:=N0 dx (k+1)
 have gt2:=N0 dx k
 have ht0:=Zs (m:=k+1) hxl.symm nx
 obtain ⟨t,ht⟩:∃ t:Nat,xs.getD (k+1) 0=t:=⟨(xs.getD (k+1) 0).toNat,by omega⟩
 rw [hxl]
 refine sx.load rfl (by omega) (by omega) ?_
 rw [C35,ht]
 rw [ht] at gt ht0
 refine Q3 (by omega) ⟨_,rfl,?_⟩
 obtain ⟨s,hs⟩:∃ s,s=64-N3 t:=⟨_,rfl⟩
 rw [<- hs]
 obtain ⟨hs64,hY1,hY2⟩:=Vd dx hxl.symm ht (by omega) hs
 refine sx.load rfl (by omega) (by omega) ?_
 simp only [C35,ht]
 have es:C0 (s:Int)=s:=C2 (by omega) (by omega)
 have es2:C0 (64-(s:Int))=((64-s:Nat):Int):=by rw [C2 (by omega) (by omega)];omega
 refine B6 (fun e=>by rw [es] at e;omega) (fun _=>?_)
 refine sx.load rfl (by omega) (by omega) ?_
 simp only [C35]
 refine B6 (fun e=>by rw [es,es2] at e;omega) (fun _=>?_)
 have hps:0<(2:Int)^s:=C42 (by decide)
 have hpp:0<(2:Int)^(64-s):=C42 (by decide)
 have hsp:=W7 (s:=s) (by omega)
 have hpk:=D6 (B:=b64) (by decide) k
 have hW:0<b64^k*2^(64-s):=Int.mul_pos hpk hpp
 have hFa:=A7j dx (k:=k) (s:=s) (by omega) (by omega)
 have hSb:=A7j dy (k:=k) (s:=s) (by omega) (by omega)
 have hFlt:val b64 xs/(b64^k*2^(64-s))<18446744073709551616:=by
  apply C3z hW
  have t1:18446744073709551616*(b64^k*2^(64-s))*2^s=18446744073709551616*b64^k*(2^s*2^(64-s)):=by grind
  rw [hsp] at t1
  have t2:b64^(k+1+1)=18446744073709551616*b64^k*18446744073709551616:=by
   rw [C3s,C3s]
   show b64^k*18446744073709551616*18446744073709551616=_
   grind
  rw [t2,<- t1] at hY1
  exact Int.lt_of_mul_lt_mul_right hY1 (by omega)
 have hSF:val b64 ys/(b64^k*2^(64-s))<=val b64 xs/(b64^k*2^(64-s)):=Int.ediv_le_ediv hW hba
 have q1:∀ z:Int,0<=z/\z<18446744073709551616->0<=z/2^(64-s)/\z/2^(64-s)<2^s:=fun z hz=>
  ⟨C5p hz.1 (by omega),C3z hpp (by rw [hsp];exact hz.2)⟩
 have hor:∀ u z:Int,0<=u->0<=z/\z<18446744073709551616->u*2^s+z/2^(64-s)<18446744073709551616->bor .u64 (C0 (u*2^(min (C0 (s:Int)).toNat 64))) (C5g z (2^(min (C0 (64-C0 (s:Int))).toNat 64)))=u*2^s+z/2^(64-s):=by
  intro u z hu hz huz
  have:=q1 z hz
  have:=C3u hu (C3n hps)
  rw [es,es2,C35,C35,B2e (by omega),C3i (show s<=64 by omega),C2 (by omega) (by omega),A0u hu (by omega) huz]
 have gy:=N0 dy (k+1)
 have gy2:=N0 dy k
 rw [ht] at hFa
 refine ⟨fun l hp=>hp=h/\l=[U (val b64 ys/(b64^k*2^(64-s)))],?_,?_⟩
 ·refine D9 (fun e=>?_) (fun e=>?_)
  ·rw [hyl]
   refine sy.load rfl (by omega) (by omega) ?_
   simp only [C35]
   refine B6 (fun e=>by rw [es] at e;omega) (fun _=>?_)
   refine sy.load rfl (by omega) (by omega) ?_
   simp only [C35]
   refine B6 (fun e=>by rw [es,es2] at e;omega) (fun _=>?_)
   rw [hor _ _ gy.1 gy2 (by omega),hSb]
   first|exact ⟨rfl,rfl⟩|exact ⟨trivial,rfl⟩
  ·refine D9 (fun e=>?_) (fun e=>?_)
   ·rw [hyl]
    refine sy.load rfl (by omega) (by omega) ?_
    simp only [C35]
    refine B6 (fun e=>by rw [es,es2] at e;omega) (fun _=>?_)
    have:ys.getD (k+1) 0=0:=by simp [C5e,C57 (show ys.length<=k+1 by omega)]
    rw [this,Int.zero_mul,Int.zero_add] at hSb
    rw [es,es2,C35,B2e (by omega),hSb]
    first|exact ⟨rfl,rfl⟩|exact ⟨trivial,rfl⟩
   ·have t1:ys.getD (k+1) 0=0:=by simp [C5e,C57 (show ys.length<=k+1 by omega)]
    have t2:ys.getD k 0=0:=by simp [C5e,C57 (show ys.length<=k by omega)]
    rw [t1,t2,Int.zero_mul,Int.zero_add,Int.zero_ediv] at hSb
    rw [hSb]
    exact ⟨rfl,rfl⟩
 ·rintro second hp1 ⟨rfl,hl2⟩
  simp only [C3g,C3p,and_true,true_and] at hl2
  subst hl2
  exact B2d (F:=val b64 xs/(b64^k*2^(64-s))) (by rw [hor _ _ (by omega) gt2 (by omega),hFa]) hW rfl rfl hb0 hba hFlt hK
end
theorem Win.swap{k k':IntKind}{h g1 g:Heap}{ba bb:Nat}{e e':TypeId}{A B:Option Addr}{pa qa pb qb:List Value}{us bs:List Int}(wa:Win k h g1 ba e A pa us qa)(wb:Win k' g1 g bb e' B pb bs qb):∃ g2,Win k' h g2 bb e' B pb bs qb/\Win k g2 g ba e A pa us qa:=by
 have hne:ba≠bb:=by
  rintro rfl
  have:=wa.free
  rw [wb.eq,C3] at this
  cases this
 have hga:g ba=none:=by
  have:=wa.free
  rwa [wb.eq,B8 _ _ hne] at this
 refine ⟨g.put ba (.cells (pa++us.map (C3q k)++qa).toArray e),⟨?_,?_,wb.at_⟩,⟨hga,rfl,wa.at_⟩⟩
 ·rw [B8 _ _ hne.symm];exact wb.free
 ·rw [wa.eq,wb.eq];exact Heap.put_comm _ _ _ hne.symm
theorem Wl{z y c:Int}(hz:0<=z/\z<18446744073709551616)(hy:0<=y/\y<18446744073709551616)(hc:0<=c/\c<=1):(z-y-c)%18446744073709551616=z-y-c+18446744073709551616*(if z-y-c<0 then 1 else 0):=by
 split<;>omega
theorem A0e(z:Int):z%18446744073709551616=z-18446744073709551616*(z/18446744073709551616):=by omega
theorem Kl{x y c:Int}(hx:0<=x/\x<18446744073709551616)(hy:0<=y/\y<18446744073709551616)(hc:0<=c/\c<18446744073709551616):0<=(x*y+c)/18446744073709551616/\(x*y+c)/18446744073709551616<18446744073709551616:=by
 have h0:=C3u hx.1 hy.1
 have h1:x*y<=18446744073709551615*y:=C3a (by omega) hy.1
 omega
theorem pin{v w B m:Int}(h:v=w+B*m)(hv:0<=v/\v<B)(hw:0<=w/\w<B):v=w:=by
 have hB:0<B:=by omega
 by_cases h0:m <= -1
 ·have:=C38 h0 (C3n hB);omega
 ·by_cases h1:1<=m
  ·have:=C38 h1 (C3n hB);omega
  ·obtain rfl:m=0:=by omega
   omega
section
variable {h g g1:Heap} {K:VP} {A B:Option Addr} {ac bc an bn ba bb:Nat} {e:TypeId} {qa qb:List Value}
set_option maxHeartbeats 1000000 in
theorem A69{us bs:List Int}{u0 u1 v0 v1:Int}{odd:Bool}(wa:Win .u64 h g1 ba e A [] us qa)(wb:Win .u64 g1 g bb e B [] bs qb)(ha:an=us.length)(hb:bn=bs.length)(hab:us.length=bs.length)(da:Dig b64 us)(db:Dig b64 bs)(hl:us.length<=1000000000)(hu0:0<=u0/\u0<18446744073709551616)(hu1:0<=u1/\u1<18446744073709551616)(hv0:0<=v0/\v0<18446744073709551616)(hv1:0<=v1/\v1<18446744073709551616)
 (hX0:0<=Iv (val b64 us) (val b64 bs) u0 v0 odd/\Iv (val b64 us) (val b64 bs) u0 v0 odd<b64^us.length) (hX1:0<=Iu (val b64 us) (val b64 bs) u1 v1 odd/\Iu (val b64 us) (val b64 bs) u1 v1 odd<b64^us.length)
 (hK:∀ us' bs' h' g1',us'.length=us.length->bs'.length=us.length->Dig b64 us'->Dig b64 bs'->val b64 us'=Iv (val b64 us) (val b64 bs) u0 v0 odd->val b64 bs'=Iu (val b64 us) (val b64 bs) u1 v1 odd->Win .u64 h' g1' ba e A [] us' qa->Win .u64 g1' g bb e B [] bs' qb->K (.tuple #[]) h'):
 FCall prog Xk #[.agg #[U u0,U u1,U v0,U v1,.bool odd],.slice A an ac,.slice B bn bc] h K:=by
 subst ha hb
 refine B0c _ _ _ _ _ _ _ _ _ _ _ ?_
 unfold B52
 refine ⟨fun l hp=>∃ (k:Nat) (cP cQ cR cT bo lo:Int) (xs ys:List Int) (g1:Heap),l=[U cP,U cQ,U cR,U cT,U bo,U lo,I k]/\k<=us.length/\xs.length=us.length/\ys.length=us.length/\Dig b64 xs/\Dig b64 ys/\(0<=cP/\cP<18446744073709551616)/\(0<=cQ/\cQ<18446744073709551616)/\(0<=cR/\cR<18446744073709551616)/\(0<=cT/\cT<18446744073709551616)/\(0<=bo/\bo<=1)/\(0<=lo/\lo<=1)/\Win .u64 hp g1 ba e A [] xs qa/\Win .u64 g1 g bb e B [] ys qb/\xs.drop k=us.drop k/\ys.drop k=bs.drop k/\
  val b64 (xs.take k)=Iv (val b64 (us.take k)) (val b64 (bs.take k)) u0 v0 odd+b64^k*((if odd then cQ-cP else cP-cQ)+bo)/\val b64 (ys.take k)=Iu (val b64 (us.take k)) (val b64 (bs.take k)) u1 v1 odd+b64^k*((if odd then cT-cR else cR-cT)+lo),fun l _=>us.length-(iAt l 6).toNat,⟨0,0,0,0,0,0,0,us,bs,g1,rfl,by omega,rfl,hab.symm,da,db,by omega,by omega,by omega,by omega,by omega,by omega,wa,wb,rfl,rfl,by simp [val,Iv],by simp [val,Iu]⟩,?_⟩
 rintro cP cQ cR cT bo lo i hp ⟨k,cP',cQ',cR',cT',bo',lo',xs,ys,g1,hli,hk,hxl,hyl,dx,dy,hP,hQ,hR,hT,hbo,hlo,wx,wy,hdx,hdy,hvx,hvy⟩
 simp only [C3g,C3p,and_true,true_and] at hli
 obtain ⟨rfl,rfl,rfl,rfl,rfl,rfl,rfl⟩:=hli
 refine B6 (fun h1=>?_) (fun h1=>?_)
 ·have gx:=N0 dx k
  have gy:=N0 dy k
  have hxx:=E5 hdx
  have hyy:=E5 hdy
  have vx:=C5 b64 us k
  have vy:=C5 b64 bs k
  obtain ⟨g2,wy2,wx2⟩:=wx.swap wy
  refine wx.sl.load hxl.symm (by omega) (by omega) ?_
  refine wy2.sl.load (by omega) (by omega) (by omega) ?_
  simp only [C35]
  obtain ⟨aA,hA,_⟩:=SlV.at wx.sl (i:=k) (by simp;omega)
  obtain ⟨aB,hB,_⟩:=SlV.at wy.sl (i:=k) (by simp;omega)
  generalize hx0:xs.getD k 0=x at *
  generalize hy0:ys.getD k 0=y at *
  refine R1 gx hu0 hP ⟨_,_,rfl,?_⟩
  refine R1 gy hv0 hQ ⟨_,_,rfl,?_⟩
  refine R1 gy hv1 hR ⟨_,_,rfl,?_⟩
  refine R1 gx hu1 hT ⟨_,_,rfl,?_⟩
  have bP:=Kl gx hu0 hP
  have bQ:=Kl gy hv0 hQ
  have bR:=Kl gy hv1 hR
  have bT:=Kl gx hu1 hT
  have mP:=Cr (x*u0+cP)
  have mQ:=Cr (y*v0+cQ)
  have mR:=Cr (y*v1+cR)
  have mT:=Cr (x*u1+cT)
  have kP:=A0e (x*u0+cP)
  have kQ:=A0e (y*v0+cQ)
  have kR:=A0e (y*v1+cR)
  have kT:=A0e (x*u1+cT)
  have ek:B5 ((k:Int)+1)=((k+1:Nat):Int):=by rw [B7 (by omega) (by omega)];omega
  rw [ek]
  generalize (x*u0+cP)/18446744073709551616=cP2 at *
  generalize (y*v0+cQ)/18446744073709551616=cQ2 at *
  generalize (y*v1+cR)/18446744073709551616=cR2 at *
  generalize (x*u1+cT)/18446744073709551616=cT2 at *
  generalize (x*u0+cP)%18446744073709551616=p at *
  generalize (y*v0+cQ)%18446744073709551616=q at *
  generalize (y*v1+cR)%18446744073709551616=r at *
  generalize (x*u1+cT)%18446744073709551616=t at *
  have hpk:b64^(k+1)=b64^k*18446744073709551616:=C3s _ _
  cases odd with
  | true=>
   refine Br.of (fun _=>?_) (fun e=>by cases e)
   refine Dp mP mQ hbo ⟨_,_,rfl,aA,hA,by omega,by omega,wx.storeN F2 hA (by omega) ?_⟩
   intro h2 w2
   refine Dp mR mT hlo ⟨_,_,rfl,aB,hB,by omega,by omega,?_⟩
   obtain ⟨g3,wy3,wx3⟩:=w2.swap wy
   refine wy3.storeN F2 hB (by omega) ?_
   intro h4 w4
   obtain ⟨g5,wx5,wy5⟩:=w4.swap wx3
   refine ⟨⟨k+1,_,_,_,_,_,_,_,_,g5,rfl,by omega,by simpa using hxl,by simpa using hyl,dx.set (Cr _),dy.set (Cr _),bP,bQ,bR,bT,by split<;>omega,by split<;>omega,wx5,wy5,?_,?_,?_,?_⟩,by simp only [iAt,C3b,C3c];omega⟩
   ·rw [D5 (by omega)];exact D7 hdx
   ·rw [D5 (by omega)];exact D7 hdy
   ·rw [C9 (by omega),E9,C3d,C3i (by omega),hpk,vx,vy,<- hxx,<- hyy,hvx,Wl mP mQ hbo]
    simp only [Iv,if_true]
    grind
   ·rw [C9 (by omega),E9,C3d,C3i (by omega),hpk,vx,vy,<- hxx,<- hyy,hvy,Wl mR mT hlo]
    simp only [Iu,if_true]
    grind
  | false=>
   refine Br.of (fun e=>by cases e) (fun _=>?_)
   refine Dp mQ mP hbo ⟨_,_,rfl,aA,hA,by omega,by omega,wx.storeN F2 hA (by omega) ?_⟩
   intro h2 w2
   refine Dp mT mR hlo ⟨_,_,rfl,aB,hB,by omega,by omega,?_⟩
   obtain ⟨g3,wy3,wx3⟩:=w2.swap wy
   refine wy3.storeN F2 hB (by omega) ?_
   intro h4 w4
   obtain ⟨g5,wx5,wy5⟩:=w4.swap wx3
   refine ⟨⟨k+1,_,_,_,_,_,_,_,_,g5,rfl,by omega,by simpa using hxl,by simpa using hyl,dx.set (Cr _),dy.set (Cr _),bP,bQ,bR,bT,by split<;>omega,by split<;>omega,wx5,wy5,?_,?_,?_,?_⟩,by simp only [iAt,C3b,C3c];omega⟩
   ·rw [D5 (by omega)];exact D7 hdx
   ·rw [D5 (by omega)];exact D7 hdy
   ·rw [C9 (by omega),E9,C3d,C3i (by omega),hpk,vx,vy,<- hxx,<- hyy,hvx,Wl mQ mP hbo]
    simp only [Iv,C4o,if_false]
    grind
   ·rw [C9 (by omega),E9,C3d,C3i (by omega),hpk,vx,vy,<- hxx,<- hyy,hvy,Wl mT mR hlo]
    simp only [Iu,C4o,if_false]
    grind
 ·obtain rfl:k=us.length:=by omega
  rw [C39 (show xs.length<=us.length by omega),C4x,C39 (show bs.length<=us.length by omega)] at hvx
  rw [C39 (show ys.length<=us.length by omega),C4x,C39 (show bs.length<=us.length by omega)] at hvy
  have bx:=K6 (by decide) dx
  have by_:=K6 (by decide) dy
  rw [hxl] at bx
  rw [hyl] at by_
  exact hK xs ys hp g1 hxl hyl dx dy (pin hvx ⟨C7 (by decide) dx,bx⟩ hX0) (pin hvy ⟨C7 (by decide) dy,by_⟩ hX1) wx wy
end
theorem Win.priv{k:IntKind}{h g:Heap}{b m c:Nat}{e:TypeId}{A:Option Addr}{xs:List Int}{post:List Value}(w:Win k h g b e A [] xs post)(hx:xs≠[])(hc:c=xs.length+post.length)(hm:m<=xs.length):Priv h g e 1 A m c ((xs.take m).map (C3q k)):=by
 refine ⟨by simp;omega,by omega,.inr ⟨b,xs.map (C3q k)++post,?_,w.free,?_,by simp;omega,?_⟩⟩
 ·rcases w.at_ with h0|h0
  ·exact absurd h0 hx
  ·simpa using h0
 ·have:=w.eq
  rwa [C4j] at this
 ·rw [C41,C3v (by simp;omega),List.map_take]
theorem Dj{k:IntKind}{h g:Heap}{n c:Nat}{e:TypeId}{A:Option Addr}{xs:List Int}(p:Priv h g e 1 A n c (xs.map (C3q k)))(hx:xs≠[]):∃ b post,Win k h g b e A [] xs post/\c=xs.length+post.length:=by
 obtain ⟨h1,h2,h3⟩:=p
 rw [List.length_map] at h1
 rcases h3 with ⟨hc,rfl⟩|⟨b,arr,hA,hb,rfl,h4,h5⟩
 ·exact absurd (C37 (by omega)) hx
 ·refine ⟨b,arr.drop (n*1),⟨hb,?_,.inr hA⟩,?_⟩
  ·rw [C4j,<- h5,C54]
  ·rw [C3k];omega
theorem Priv.swap{h g1 g:Heap}{e e':TypeId}{s s' n c m d:Nat}{A B:Option Addr}{xs ys:List Value}(pa:Priv h g1 e s A n c xs)(pb:Priv g1 g e' s' B m d ys):∃ g2,Priv h g2 e' s' B m d ys/\Priv g2 g e s A n c xs:=by
 obtain ⟨a1,a2,a3⟩:=pa
 obtain ⟨b1,b2,b3⟩:=pb
 rcases a3 with ⟨hc,rfl⟩|⟨ba,arr,hA,hfa,rfl,a4⟩
 ·exact ⟨g,⟨b1,b2,b3⟩,⟨a1,a2,.inl ⟨hc,rfl⟩⟩⟩
 ·rcases b3 with ⟨hd,rfl⟩|⟨bb,brr,hB,hfb,rfl,b4⟩
  ·exact ⟨_,⟨b1,b2,.inl ⟨hd,rfl⟩⟩,⟨a1,a2,.inr ⟨ba,arr,hA,hfa,rfl,a4⟩⟩⟩
  ·have hne:ba≠bb:=by
    rintro rfl
    rw [C3] at hfa;cases hfa
   rw [B8 _ _ hne] at hfa
   refine ⟨g.put ba (.cells arr.toArray e),⟨b1,b2,.inr ⟨bb,brr,hB,?_,Heap.put_comm _ _ _ hne.symm,b4⟩⟩,⟨a1,a2,.inr ⟨ba,arr,hA,hfa,rfl,a4⟩⟩⟩
   rw [B8 _ _ hne.symm];exact hfb
abbrev Pw(h g:Heap)(A:Option Addr)(n c:Nat)(us:List Int):Prop:=Priv h g C1 1 A n c (us.map (C3q .u64))
def GI(h:Heap)(G:Nat)(hp:Heap)(A:Option Addr)(n c:Nat)(B:Option Addr)(m d:Nat):Prop:=∃ (us vs:List Int) (g1 g:Heap),h.le g/\Pw hp g1 A n c us/\Pw g1 g B m d vs/\Dig b64 us/\Dig b64 vs/\Norm us/\Norm vs/\n=us.length/\m=vs.length/\val b64 vs<=val b64 us/\C5o (val b64 us) (val b64 vs)=G/\us.length<=100000000
theorem A8s{a b:Int}(ha:0<=a)(hb:0<=b):C5o b (a%b)=C5o a b:=by
 obtain ⟨x,rfl⟩:=C4a ha
 obtain ⟨y,rfl⟩:=C4a hb
 rw [<- C5l,C49,C49,Nat.gcd_comm x,Nat.gcd_comm y,<- Nat.gcd_rec]
section
variable {h g:Heap} {K:VP} {A B:Option Addr} {ac bc:Nat}
set_option maxHeartbeats 1000000 in
theorem B2r{G an bn:Nat}{hp:Heap}(gl:Gtz h)(gi:GI h G hp A an ac B bn bc)(hK:∀ A' m c' h',h.le h'->m<=c'->Mw h' A' m (G:Int)->K (.slice A' m c') h'):Ji prog K A an ac B bn bc hp:=by
 unfold Ji
 refine ⟨fun l hp=>∃ (A B:Option Addr) (n c m d:Nat),l=[.slice A n c,.slice B m d]/\GI h G hp A n c B m d,fun l hp=>match l with|[_,.slice B n _]=>A8g b64 hp B n|_=>0,⟨_,_,_,_,_,_,rfl,gi⟩,?_⟩
 rintro A1 n1 c1 B1 m1 d1 hp ⟨A,B,n,c,m,d,hl,us,vs,g1,g,lg,pa,pb,du,dv,nu,nv,hn,hm,hvu,hgcd,hul⟩
 simp only [C3g,C3l,and_true] at hl
 obtain ⟨⟨rfl,rfl,rfl⟩,rfl,rfl,rfl⟩:=hl
 have Ma:Mw hp A1 n1 (val b64 us):=⟨us,hn,pa.slV,du,nu,rfl⟩
 have Mb:Mw hp B1 m1 (val b64 vs):=⟨vs,hm,SlV.mono pa.le pb.slV,dv,nv,rfl⟩
 have hca:=pa.2.1
 have hcb:=pb.2.1
 have hu0:=C7 (by decide) du
 have hv0:=C7 (by decide) dv
 have hmn:m1<=n1:=Mb.len_le (by decide) (C5f hvu (Ma.lt (by decide)))
 have lhp:h.le hp:=B0 lg (B0 pb.le pa.le)
 have hbz:=Mb.len_zero (by decide)
 refine B6 (fun h1=>?_) (fun h1=>?_)
 ·refine Wp Ma Mb hvu (by omega) (by omega) ?_
  intro u0 u1 v0 v1 odd st
  refine ⟨_,_,_,_,_,rfl,D9 (fun e=>?_) (fun e=>?_)⟩
  ·refine R3 Ma Mb hca hcb (by omega) (by omega) (by omega) ?_
   intro A2 m2 c2 A3 m3 c3 h6 l6 k2 k3 M2 M3
   refine ⟨_,_,_,_,_,_,rfl,?_⟩
   have hm3:m3<=m1:=M3.len_le (by decide) (by have:=C3e (val b64 us) (show 0<val b64 vs by omega);have:=Mb.lt (by decide);omega)
   obtain ⟨ws,hwl,sws,dws,nws,hwv⟩:=M3
   refine Cz sws hwl (by omega) ?_
   intro A4 c4 h7 g7 l7 p7
   obtain ⟨g2,pb2,pa2⟩:=pa.swap pb
   obtain ⟨g8,l8,pb8⟩:=pb2.after (B0 l6 l7)
   obtain ⟨g9,pB9,pA9⟩:=Priv.swap p7 pb8
   have hlt:=C3e (val b64 us) (show 0<val b64 vs by omega)
   have Mn:Mw h7 A4 ws.length (val b64 ws):=⟨ws,rfl,p7.slV,dws,nws,rfl⟩
   refine ⟨_,_,_,rfl,⟨_,_,_,_,_,_,rfl,vs,ws,g9,g8,B0 lg (B0 pa2.le l8),pB9,pA9,dv,dws,nv,nws,hm,rfl,by omega,?_,by omega⟩,?_⟩
   ·rw [hwv,A8s hu0 hv0];exact hgcd
   ·simp only [Y6 Mn,Y6 Mb]
    have:=C7 (by decide) dws
    omega
  ·obtain ⟨hu0',hu1',hv0',hv1',lh⟩:=st
   have lh:=lh e
   unfold Pa
   obtain ⟨g2,pb2,pa2⟩:=pa.swap pb
   refine ⟨fun l hp=>∃ (B:Option Addr) (m d j:Nat) (g1 g:Heap),l=[.slice B m d]/\h.le g/\Pw hp g1 B m d (vs++C34 j 0)/\Pw g1 g A1 n1 c1 us/\m=vs.length+j/\m<=n1,fun l _=>match l with|[.slice _ m _]=>n1-m|_=>0,⟨B1,m1,d1,0,g2,g,rfl,lg,by simpa using pb2,pa2,by omega,hmn⟩,?_⟩
   rintro B2 m2 d2 hp8 ⟨B',m',d',j,g3,g4,hl2,lg4,pb3,pa3,hmj,hmn2⟩
   simp only [C3g,C3l,and_true] at hl2
   obtain ⟨rfl,rfl,rfl⟩:=hl2
   refine B6 (fun h2=>?_) (fun h2=>?_)
   ·refine Cb O6 pb3 rfl rfl (by omega) (by omega) ?_
    intro A5 c5 h5 g5 l5 p5
    obtain ⟨g6,l6,pa6⟩:=pa3.after l5
    refine ⟨⟨A5,m2+1,c5,j+1,g5,g6,rfl,B0 lg4 l6,?_,pa6,by omega,by omega⟩,by simp only;omega⟩
    have p6:=p5
    rw [<- C5d (f:=C3q .u64),<- C55,C3h,<- C4g] at p6
    exact p6
   ·obtain ⟨g5,pa5,pb5⟩:=pb3.swap pa3
    have hvl:(vs++C34 j (0:Int)).length=us.length:=by simp;omega
    have hune:us≠[]:=by rintro rfl;simp at hn;omega
    have hvne:vs++C34 j (0:Int)≠[]:=by intro h0;rw [h0] at hvl;simp at hvl;exact hune (C37 hvl.symm)
    obtain ⟨ba,qa,wa,hqa⟩:=Dj pa5 hune
    obtain ⟨bb,qb,wb,hqb⟩:=Dj pb5 hvne
    have hgl:=lh.gcd
    have hord:=lh.ord
    have hle:=lh.le
    have hblt:val b64 vs<b64^us.length:=by rw [<- hn];exact C5f hvu (Ma.lt (by decide))
    refine A69 wa wb hn (by omega) hvl.symm du (dv.append (H0 (by decide) _)) (by omega) hu0' hu1' hv0' hv1' (by rw [Bp];omega) (by rw [Bp];omega) ?_
    intro us' vs' h6 g6 hul' hvl' du' dv' hX0 hX1 wa' wb'
    rw [Bp] at hX0 hX1
    have hune':us'≠[]:=by rintro rfl;simp at hul';exact hune (C37 hul'.symm)
    have hvne':vs'≠[]:=by rintro rfl;simp at hvl';exact hune (C37 hvl'.symm)
    refine ⟨rfl,?_⟩
    rw [show n1=us'.length by omega]
    refine Cj wa'.sl (by omega) (by omega) ?_
    intro k1 hk1 nk1 vk1
    refine ⟨_,_,_,rfl,?_⟩
    rw [show m2=vs'.length by omega]
    refine Cj (SlV.mono wa'.le wb'.sl) (by omega) (by omega) ?_
    intro k2 hk2 nk2 vk2
    have pA:=wa'.priv (m:=k1) (c:=c1) hune' (by omega) hk1
    have pB:=wb'.priv (m:=k2) (c:=d2) hvne' (by omega) hk2
    have e1:(us'.take k1).length=k1:=by rw [C3d];omega
    have e2:(vs'.take k2).length=k2:=by rw [C3d];omega
    have Mn:Mw h6 B2 k2 (val b64 (vs'.take k2)):=⟨vs'.take k2,e2.symm,SlV.mono pA.le pB.slV,dv'.take _,nk2,rfl⟩
    refine ⟨_,_,_,rfl,⟨_,_,_,_,_,_,rfl,us'.take k1,vs'.take k2,_,_,lg4,pA,pB,du'.take _,dv'.take _,nk1,nk2,e1.symm,e2.symm,?_,?_,by omega⟩,?_⟩
    ·rw [vk1,vk2,hX0,hX1];omega
    ·rw [vk1,vk2,hX0,hX1,hgl];exact hgcd
    ·simp only [Y6 Mn,Y6 Mb]
     rw [vk2,hX1];omega
 ·refine D9 (fun h2=>?_) (fun h2=>?_)
  ·have h0:val b64 vs=0:=hbz.2 (by omega)
   rw [h0,Int.gcd_zero_right] at hgcd
   refine hK _ _ _ _ lhp hca ?_
   rw [<- hgcd,Int.natAbs_of_nonneg hu0];exact Ma
  ·have hm1:m1=1:=by omega
   obtain ⟨w,rfl⟩:∃ w,vs=[w]:=by
    rcases vs with _|⟨w,_|⟨w',r⟩⟩
    ·simp at hm;omega
    ·exact ⟨w,rfl⟩
    ·simp at hm;omega
   have hw:=dv w (by simp)
   rw [T3] at *
   obtain ⟨t,rfl⟩:∃ t:Nat,w=(t:Int):=C4a hw.1
   have hw2:(t:Int)<18446744073709551616:=hw.2
   have ht0:0<t:=by omega
   have sb:SlI .u64 hp B1 [(t:Int)]:=SlV.mono pa.le pb.slV
   refine sb.load hm (by omega) (by omega) ?_
   refine sb.load hm (by omega) (by omega) ?_
   show FCall _ _ #[_,U ((t:Nat):Int)] _ _
   refine Ke Ma ⟨ht0,by omega⟩ (by omega) ⟨_,rfl,B4 _,?_⟩
   have r0:=C3o (val b64 us) (b:=(t:Int)) (by omega)
   have r1:=C3e (val b64 us) (show (0:Int)<(t:Int) by omega)
   have hgm:=A8s hu0 (show (0:Int)<=(t:Int) by omega)
   obtain ⟨r,hr⟩:=C4a r0
   rw [hr] at r1 hgm ⊢
   show FCall _ _ #[U ((t:Nat):Int),_] _ _
   refine A0l (gl.mono lhp) (by omega) (by omega) ⟨_,rfl,B4 _,?_⟩
   rw [C49] at hgm
   have hle:C4p t r<=t:=Nat.le_of_dvd ht0 (Nat.gcd_dvd_left t r)
   refine Ai (by omega) ?_
   intro A2 m2 c2 h2 l2 k2 M2
   rw [hgm,hgcd] at M2
   exact ⟨_,_,_,rfl,l2,hK _ _ _ _ (B0 lhp l2) k2 M2⟩
theorem Kp{x y:Int}{an bn:Nat}(gl:Gtz h)(ma:Mw h A an x)(mb:Mw h B bn y)(ha:an<=ac)(hb:bn<=bc)(hl:an<=100000000)(hl2:bn<=100000000)(hK:∀ A' m c' h',h.le h'->m<=c'->Mw h' A' m (C5o x y:Int)->K (.slice A' m c') h'):FCall prog Dy #[.slice A an ac,.slice B bn bc] h K:=by
 refine A15 _ _ _ _ _ _ ?_
 unfold A16
 refine ⟨fun l hp=>hp=h/\∃ (A B:Option Addr) (n c m d:Nat) (x1 y1:Int),l=[.slice A n c,.slice B m d]/\Mw h A n x1/\Mw h B m y1/\y1<=x1/\n<=c/\m<=d/\n<=100000000/\m<=100000000/\C5o x1 y1=C5o x y,?_,?_⟩
 ·refine J5 ma mb (by omega) ⟨_,rfl,B6 (fun h1=>?_) (fun h1=>?_)⟩
  ·rw [Hz] at h1
   exact ⟨rfl,_,_,_,_,_,_,_,_,rfl,mb,ma,by omega,hb,ha,hl2,hl,Int.gcd_comm _ _⟩
  ·rw [Hz] at h1
   exact ⟨rfl,_,_,_,_,_,_,_,_,rfl,ma,mb,by omega,ha,hb,hl,hl2,rfl⟩
 ·rintro A1 n1 c1 B1 m1 d1 hp ⟨rfl,A2,B2,n,c,m,d,x1,y1,hli,M1,M2,hle,k1,k2,l1,l2,hg⟩
  simp only [C3g,C3l,and_true] at hli
  obtain ⟨⟨rfl,rfl,rfl⟩,rfl,rfl,rfl⟩:=hli
  have hx0:=M1.nonneg (by decide)
  refine D9 (fun h1=>?_) (fun h1=>?_)
  ·have:y1=0:=(M2.len_zero (by decide)).2 (by omega)
   subst this
   rw [Int.gcd_zero_right] at hg
   refine hK _ _ _ _ (B4 _) k1 ?_
   rw [<- hg,Int.natAbs_of_nonneg hx0];exact M1
  ·obtain ⟨us,hul,su,du,nu,rfl⟩:=M1
   obtain ⟨vs,hvl,sv,dv,nv,rfl⟩:=M2
   refine Cz su hul (by omega) ?_
   intro A3 c3 h3 g3 l3 p3
   refine ⟨_,_,_,rfl,?_⟩
   refine Cz (SlV.mono (B0 l3 p3.le) sv) hvl (by omega) ?_
   intro A4 c4 h4 g4 l4 p4
   refine ⟨_,_,_,rfl,?_⟩
   obtain ⟨g5,l5,p5⟩:=p3.after l4
   obtain ⟨g6,pa,pb⟩:=Priv.swap p4 p5
   exact B2r gl ⟨us,vs,g6,g5,B0 l3 l5,pa,pb,du,dv,nu,nv,rfl,rfl,hle,hg,by omega⟩ hK
end
structure ZI (h:Heap) (s:Bool) (A:Option Addr) (n c:Nat) (z:Int):Prop where
 cap:n<=c
 mag:Mw h A n (z.natAbs:Int)
 sgn:s=decide (z<0)
theorem ZI.mono{h h':Heap}{s:Bool}{A:Option Addr}{n c:Nat}{z:Int}(i:ZI h s A n c z)(l:h.le h'):ZI h' s A n c z:=⟨i.cap,i.mag.mono l,i.sgn⟩
theorem ZI.zero{h:Heap}{A:Option Addr}:ZI h false A 0 0 0:=⟨C4d _,Mag.zero,rfl⟩
theorem ZI.len{h:Heap}{s:Bool}{A:Option Addr}{n c m:Nat}{z:Int}(i:ZI h s A n c z)(hz:ZB m z)(hm:m<=6400000000):n<=100000000:=by
 obtain ⟨k,hk⟩:∃ k,k=100000000:=⟨_,rfl⟩
 rw [<- hk]
 refine i.mag.len_le (by decide) ?_
 rw [Is]
 have h1:(z.natAbs:Int)<2^m:=by
  have:((z.natAbs:Nat):Int)<((2^m:Nat):Int):=Int.ofNat_lt.2 hz
  simpa using this
 have h2:=D0 (B:=2) (by decide) (show m<=64*k by omega)
 exact Int.lt_of_lt_of_le h1 h2
theorem ZI.zeroIff{h:Heap}{s:Bool}{A:Option Addr}{n c:Nat}{z:Int}(i:ZI h s A n c z):z=0↔n=0:=by
 have:=i.mag.len_zero (by decide)
 omega
section
variable {h g:Heap} {K:VP} {A B:Option Addr} {s s':Bool} {an ac bn bc m:Nat} {x y:Int}
theorem T9{v:Nat}{n c:Nat}{neg:Bool}(M:Mw h A n (v:Int))(hc:n<=c)(hK:∀ s,ZI h s A n c (if neg then -(v:Int) else v)->K (.agg #[.bool s,.slice A n c]) h):FCall prog W9 #[.bool neg,.slice A n c] h K:=by
 have h0:=M.len_zero (by decide)
 refine A6g _ _ _ _ ?_
 unfold B08
 cases neg with
 | true=>
  refine Br.of (fun _=>hK _ ⟨hc,?_,?_⟩) (fun e=>by cases e)
  ·simpa using M
  ·simp only [if_true,decide_eq_decide];omega
 | false=>
  refine Br.of (fun e=>by cases e) (fun _=>hK _ ⟨hc,?_,?_⟩)
  ·simpa using M
  ·simp
theorem Ch(i:ZI h s A an ac x)(hK:∀ s',ZI h s' A an ac (-x)->K (.agg #[.bool s',.slice A an ac]) h):FCall prog Kr #[.agg #[.bool s,.slice A an ac]] h K:=by
 refine B78 _ _ _ _ ?_
 unfold C2d
 refine T9 (neg:= !s) i.mag i.cap ?_
 intro s1 i1
 have e:(if (!s)=true then -(x.natAbs:Int) else x.natAbs)= -x:=by
  have:=i.sgn
  by_cases hx:x<0
  ·simp only [hx,decide_true] at this;subst this;simp;omega
  ·simp only [hx,decide_false] at this;subst this;simp;omega
 rw [e] at i1
 exact ⟨_,_,_,_,rfl,hK _ i1⟩
theorem Ci(i:ZI h s A an ac x)(j:ZI h s' B bn bc y)(hx:ZB m x)(hy:ZB m y)(hm:m<=6400000000)(hK:∀ s1 A' n' c' h',h.le h'->ZI h' s1 A' n' c' (x*y)->K (.agg #[.bool s1,.slice A' n' c']) h'):FCall prog Om #[.agg #[.bool s,.slice A an ac],.agg #[.bool s',.slice B bn bc]] h K:=by
 have la:=i.len hx hm
 have lb:=j.len hy hm
 have hs:=i.sgn
 have hs':=j.sgn
 refine B79 _ _ _ _ _ _ _ _ ?_
 unfold C2e
 refine G8 i.mag j.mag i.cap j.cap (by omega) (by omega) ?_
 intro A1 m1 c1 h1 l1 k1 M1
 refine ⟨_,_,_,rfl,l1,?_⟩
 rw [<- C3t] at M1
 refine T9 (neg:= !(s==s')) M1 k1 ?_
 intro s1 i1
 refine ⟨_,_,_,_,rfl,B4 _,hK _ _ _ _ _ l1 ?_⟩
 have e2:(if (!(s==s'))=true then -((x.natAbs*y.natAbs:Nat):Int) else ((x.natAbs*y.natAbs:Nat):Int))=x*y:=by
  rw [C3t]
  cases s with
  | true=>cases s' with
   | true=>rw [show (x.natAbs:Int)= -x by have:=of_decide_eq_true hs.symm;omega,show (y.natAbs:Int)= -y by have:=of_decide_eq_true hs'.symm;omega];show -x * -y=x*y;exact Int.neg_mul_neg x y
   | false=>rw [show (x.natAbs:Int)= -x by have:=of_decide_eq_true hs.symm;omega,show (y.natAbs:Int)=y by have:=of_decide_eq_false hs'.symm;omega];show -(-x*y)=x*y;rw [Int.neg_mul,Int.neg_neg]
  | false=>cases s' with
   | true=>rw [show (x.natAbs:Int)=x by have:=of_decide_eq_false hs.symm;omega,show (y.natAbs:Int)= -y by have:=of_decide_eq_true hs'.symm;omega];show -(x * -y)=x*y;rw [Int.mul_neg,Int.neg_neg]
   | false=>rw [show (x.natAbs:Int)=x by have:=of_decide_eq_false hs.symm;omega,show (y.natAbs:Int)=y by have:=of_decide_eq_false hs'.symm;omega];rfl
 rw [e2] at i1
 exact i1
theorem Ff(gl:Gtz h)(i:ZI h s A an ac x)(j:ZI h s' B bn bc y)(hx:ZB m x)(hy:ZB m y)(hm:m<=6400000000)(hK:∀ A' n' c' h',h.le h'->ZI h' false A' n' c' (C5o x y:Int)->K (.agg #[.bool false,.slice A' n' c']) h'):FCall prog Rs #[.agg #[.bool s,.slice A an ac],.agg #[.bool s',.slice B bn bc]] h K:=by
 have la:=i.len hx hm
 have lb:=j.len hy hm
 refine B7b _ _ _ _ _ _ _ _ ?_
 unfold C2g
 refine Kp gl i.mag j.mag i.cap j.cap la lb ?_
 intro A1 m1 c1 h1 l1 k1 M1
 refine ⟨_,_,_,rfl,hK _ _ _ _ l1 ⟨k1,?_,?_⟩⟩
 ·rw [C49] at M1
  rw [Int.natAbs_natCast]
  exact M1
 ·simp
theorem Mh(i:ZI h s A an ac x)(hK:K (I (Int.sign x)) h):FCall prog Rq #[.agg #[.bool s,.slice A an ac]] h K:=by
 have h0:=i.zeroIff
 have hs:=i.sgn
 refine B3c _ _ _ _ ?_
 unfold B9e
 refine D9 (fun e=>?_) (fun e=>?_)
 ·obtain rfl:x=0:=by omega
  simpa using hK
 ·refine Br.of (fun e2=>?_) (fun e2=>?_)
  ·subst e2
   have:=of_decide_eq_true hs.symm
   rw [Int.sign_eq_neg_one_of_neg this] at hK;exact hK
  ·subst e2
   have:=of_decide_eq_false hs.symm
   rw [Int.sign_eq_one_of_pos (by omega)] at hK;exact hK
end
section
variable {h g:Heap} {K:VP} {A B:Option Addr} {s s':Bool} {an ac bn bc m:Nat} {x y:Int}
theorem W8(hs:s=decide (x<0)):(s=true/\x= -(x.natAbs:Int))\/(s=false/\x=(x.natAbs:Int)):=by
 by_cases h:x<0
 ·left;exact ⟨by rw [hs];simpa using h,by omega⟩
 ·right;exact ⟨by rw [hs];simpa using h,by omega⟩
theorem B25(a b:Nat):(a:Int).tdiv b=((a/b:Nat):Int)/\(-(a:Int)).tdiv (-(b:Int))=((a/b:Nat):Int)/\(-(a:Int)).tdiv b= -((a/b:Nat):Int)/\(a:Int).tdiv (-(b:Int))= -((a/b:Nat):Int):=by
 refine ⟨(C40 a b).symm,?_,?_,?_⟩
 ·rw [Int.neg_tdiv,Int.tdiv_neg,Int.neg_neg,C40]
 ·rw [Int.neg_tdiv,C40]
 ·rw [Int.tdiv_neg,C40]
theorem B21(a b:Nat):(a:Int).tmod b=((a%b:Nat):Int)/\(-(a:Int)).tmod (-(b:Int))= -((a%b:Nat):Int)/\(-(a:Int)).tmod b= -((a%b:Nat):Int)/\(a:Int).tmod (-(b:Int))=((a%b:Nat):Int):=by
 refine ⟨(C45 a b).symm,?_,?_,?_⟩
 ·rw [Int.neg_tmod,Int.tmod_neg,C45]
 ·rw [Int.neg_tmod,C45]
 ·rw [Int.tmod_neg,C45]
theorem Zi(i:ZI h s A an ac x)(j:ZI h s' B bn bc y)(hx:ZB m x)(hy:ZB m y)(hm:m<=6400000000)(hy0:y≠0)(hK:∀ s1 A1 n1 c1 s2 A2 n2 c2 h',h.le h'->ZI h' s1 A1 n1 c1 (x.tdiv y)->ZI h' s2 A2 n2 c2 (x.tmod y)->K (.tuple #[.agg #[.bool s1,.slice A1 n1 c1],.agg #[.bool s2,.slice A2 n2 c2]]) h'):FCall prog Rr #[.agg #[.bool s,.slice A an ac],.agg #[.bool s',.slice B bn bc]] h K:=by
 have la:=i.len hx hm
 have lb:=j.len hy hm
 have hz:=j.zeroIff
 have cx:=W8 i.sgn
 have cy:=W8 j.sgn
 refine A6d _ _ _ _ _ _ _ _ ?_
 unfold B02
 refine D9 (fun e=>by omega) (fun _=>?_)
 refine R3 i.mag j.mag i.cap j.cap (by omega) (by omega) (by omega) ?_
 intro A1 m1 c1 A2 m2 c2 h1 l1 k1 k2 M1 M2
 refine ⟨_,_,_,_,_,_,rfl,?_⟩
 rw [<- C4y] at M1
 rw [<- C5l] at M2
 refine T9 (neg:= !(s==s')) M1 k1 ?_
 intro s1 i1
 refine ⟨_,_,_,_,rfl,B4 _,?_⟩
 refine T9 (neg:=s) M2 k2 ?_
 intro s2 i2
 refine ⟨_,_,_,_,rfl,B4 _,hK _ _ _ _ _ _ _ _ _ l1 ?_ ?_⟩
 ·have e:(if (!(s==s'))=true then -((x.natAbs/y.natAbs:Nat):Int) else ((x.natAbs/y.natAbs:Nat):Int))=x.tdiv y:=by
   have t:=B25 x.natAbs y.natAbs
   rcases cx with ⟨rfl,hx'⟩|⟨rfl,hx'⟩<;>rcases cy with ⟨rfl,hy'⟩|⟨rfl,hy'⟩<;>rw [<- hx',<- hy'] at t
   ·exact t.2.1.symm
   ·exact t.2.2.1.symm
   ·exact t.2.2.2.symm
   ·exact t.1.symm
  rw [e] at i1;exact i1
 ·have e:(if s=true then -((x.natAbs%y.natAbs:Nat):Int) else ((x.natAbs%y.natAbs:Nat):Int))=x.tmod y:=by
   have t:=B21 x.natAbs y.natAbs
   rcases cx with ⟨rfl,hx'⟩|⟨rfl,hx'⟩<;>rcases cy with ⟨rfl,hy'⟩|⟨rfl,hy'⟩<;>rw [<- hx',<- hy'] at t
   ·exact t.2.1.symm
   ·exact t.2.2.1.symm
   ·exact t.2.2.2.symm
   ·exact t.1.symm
  rw [e] at i2;exact i2
theorem F6(i:ZI h s A an ac x)(hK:K (.bool (decide (x=0))) h):FCall prog G0 #[.agg #[.bool s,.slice A an ac]] h K:=by
 have hz:=i.zeroIff
 refine A6e _ _ _ _ ?_
 unfold B03
 have:((an:Int)==0)=decide (x=0):=by
  by_cases hx:x=0
  ·simp [hx,hz.1 hx]
  ·have:¬ an=0:=fun e=>hx (hz.2 e)
   simp [hx,this]
 rw [this];exact hK
theorem O7(i:ZI h s A an ac x)(hK:K (.bool (decide (x=1))) h):FCall prog V7 #[.agg #[.bool s,.slice A an ac]] h K:=by
 have cx:=W8 i.sgn
 have hz:=i.zeroIff
 have M:=i.mag
 refine B04 _ _ _ _ ?_
 unfold B4x
 rcases cx with ⟨rfl,hx⟩|⟨rfl,hx⟩
 ·refine Br.of (fun e=>by cases e) (fun _=>?_)
  rw [show decide (x=1)=false by simp;omega] at hK;exact hK
 ·refine Br.of (fun _=>?_) (fun e=>by cases e)
  obtain ⟨xs,hxl,sx,dx,nx,hxv⟩:=M
  refine D9 (fun e=>?_) (fun e=>?_)
  ·obtain ⟨w,rfl⟩:∃ w,xs=[w]:=by
    rcases xs with _|⟨w,_|⟨w',r⟩⟩
    ·simp at hxl;omega
    ·exact ⟨w,rfl⟩
    ·simp at hxl;omega
   refine sx.load hxl (by omega) (by omega) ?_
   rw [T3] at hxv
   show K (.bool (w==1)) h
   have:(w==1)=decide (x=1):=by
    by_cases h1:x=1
    ·have:w=1:=by omega
     simp [h1,this]
    ·have:¬ w=1:=by omega
     simp [h1,this]
   rw [this];exact hK
  ·have:¬ x=1:=by
    rintro rfl
    have h1:=i.mag.len_le (j:=1) (by decide) (by decide)
    have h2:¬ an=0:=fun e=>by have:=hz.2 e;omega
    omega
   rw [show decide (x=1)=false by simp [this]] at hK;exact hK
theorem Bc(i:ZI h s A an ac x)(j:ZI h s' B bn bc y)(hx:ZB m x)(hy:ZB m y)(hm:m<=6400000000)(hy0:y≠0)(hK:∀ s1 A1 n1 c1 h',h.le h'->ZI h' s1 A1 n1 c1 (x.tdiv y)->K (.agg #[.bool s1,.slice A1 n1 c1]) h'):FCall prog Kq #[.agg #[.bool s,.slice A an ac],.agg #[.bool s',.slice B bn bc]] h K:=by
 refine B77 _ _ _ _ _ _ _ _ ?_
 unfold C2c
 refine O7 j ⟨_,rfl,B6 (fun e=>?_) (fun e=>?_)⟩
 ·subst e
  exact hK _ _ _ _ _ (B4 _) (by rw [Int.tdiv_one];exact i)
 ·refine Zi i j hx hy hm hy0 ?_
  intro s1 A1 n1 c1 s2 A2 n2 c2 h1 l1 i1 i2
  exact ⟨_,_,_,_,_,_,_,_,rfl,hK _ _ _ _ _ l1 i1⟩
theorem A1y(i:ZI h s A an ac x)(j:ZI h s' B bn bc y)(hx:ZB m x)(hm:m<=6400000000)(hK:K (.bool (decide (x=y))) h):FCall prog Xj #[.agg #[.bool s,.slice A an ac],.agg #[.bool s',.slice B bn bc]] h K:=by
 have la:=i.len hx hm
 have cx:=W8 i.sgn
 have cy:=W8 j.sgn
 have hsx:=i.sgn
 have hsy:=j.sgn
 refine B06 _ _ _ _ _ _ _ _ ?_
 unfold B4z
 refine Br.of (fun e=>?_) (fun e=>?_)
 ·have e:s=s':=by simpa using e
  refine J5 i.mag j.mag (by omega) ⟨_,rfl,?_⟩
  have:(Tr (x.natAbs:Int) y.natAbs==0)=decide (x=y):=by
   by_cases h1:x=y
   ·subst h1;unfold Tr;simp
   ·have h2:¬ x.natAbs=y.natAbs:=by
     rcases cx with ⟨rfl,hx'⟩|⟨rfl,hx'⟩<;>rcases cy with ⟨h3,hy'⟩|⟨h3,hy'⟩<;>(rw [<- e] at h3)<;>first|omega|(cases h3)
    unfold Tr
    by_cases h3:(x.natAbs:Int)<y.natAbs
    ·rw [if_pos h3];simp [h1]
    ·rw [if_neg h3,if_pos (by omega)];simp [h1]
  rw [this];exact hK
 ·have e:s≠s':=by simpa using e
  have:¬ x=y:=by rintro rfl;exact e (hsx.trans hsy.symm)
  rw [show decide (x=y)=false by simp [this]] at hK;exact hK
theorem Fe{n:Int}(h1: -9223372036854775808<=n)(h2:n<=9223372036854775807)(hK:∀ s1 A1 n1 c1 h',h.le h'->ZI h' s1 A1 n1 c1 n->K (.agg #[.bool s1,.slice A1 n1 c1]) h'):FCall prog Ru #[I n] h K:=by
 refine B7c _ ?_
 unfold C2h
 refine B6 (fun hn=>?_) (fun hn=>?_)
 ·have e:C0 (0-C0 n)=(n.natAbs:Int):=by rw [E8,E8];omega
  rw [e]
  refine Ai (by omega) ?_
  intro A1 m1 c1 h1 l1 k1 M1
  exact ⟨_,_,_,rfl,hK _ _ _ _ _ l1 ⟨k1,M1,by simpa using hn⟩⟩
 ·have e:C0 n=(n.natAbs:Int):=by rw [E8];omega
  rw [e]
  refine Ai (by omega) ?_
  intro A1 m1 c1 h1 l1 k1 M1
  exact ⟨_,_,_,rfl,hK _ _ _ _ _ l1 ⟨k1,M1,by simpa using hn⟩⟩
end
theorem A5g{P:Program}{t d e:TypeId}(ht:P.underlying t=some .string)(hd:P.underlying d=some (.slice e))(he:P.underlying e=some (.int .u8)){h:Heap}{l:List UInt8}{K:VP}
 (x:∀ A c h',h.le h'->l.length<=c->SlV h' A (yv l)->K (.slice A l.length c) h'):wpH P (convert t d (.string (bs l))) K h:=by
 unfold convert
 simp only [C6,E7 ht,E7 hd,E7 he]
 unfold Conv.stringToBytes
 simp only [C6]
 refine Hh rfl (fun tt=>?_)
 have hsz:(bs l).size=l.length:=by simp [bs,C4s]
 have hcap:l.length<=(Question.appendCap (bs l).size 0 e).cut tt:=by
  rw [hsz];simp only [Question.cut];omega
 generalize (Question.appendCap (bs l).size 0 e).cut tt=cap at *
 rw [Q1]
 intro b hb
 generalize hcs:((bs l).data.map (fun b=>C3q .u8 b.toNat)++C4c (cap-(bs l).size) (C3q .u8 0))=cs
 have hle:h.le (h.put b (.cells cs e (cs.size,cs.size+1))):=Heap.le_put _ hb
 have hfz:(h.put b (.cells cs e)).freeze { block:=b,off:=cs.size } 1=h.put b (.cells cs e (cs.size,cs.size+1)):=by
  unfold Heap.freeze
  rw [if_neg (by decide)]
  funext k
  by_cases hk:k=b
  ·subst hk
   simp only [if_true,C3,Option.map_some]
   rfl
  ·rw [if_neg hk,B8 _ _ hk,B8 _ _ hk]
 refine ⟨cs,e,_,C3 _ _ _,?_⟩
 refine ⟨⟨_,C3 _ _ _⟩,?_⟩
 show K (.slice (some ⟨b,0,none⟩) (bs l).size cap) ((h.put b (.cells cs e)).freeze { block:=b,off:=cs.size } 1)
 rw [hfz,hsz]
 refine x _ _ _ hle hcap (.inr ⟨_,rfl,?_⟩)
 intro i v hv
 have hi:i<l.length:=by
  have:=(List.getElem?_eq_some_iff.1 hv).1
  simpa [yv] using this
 have e1:Addr.add ⟨b,0,none⟩ i=⟨b,i,none⟩:=by rw [D8,C4z]
 rw [e1,E6,<- hcs,Array.getElem?_append_left (by simp [bs];exact hi)]
 rw [<- hv]
 simp [yv,bs]
theorem ZB.tdiv{m:Nat}{x y:Int}(h:ZB m x):ZB m (x.tdiv y):=by
 unfold ZB at *
 rw [Int.natAbs_tdiv]
 exact Nat.lt_of_le_of_lt (C5m _ _) h
section
variable {h g:Heap} {K:VP} {A B:Option Addr} {s s':Bool} {an ac bn bc m:Nat} {x y:Int}
end
theorem A5u{ws:List Int}{k:Nat}(d:Dig b64 ws)(hl:ws.length=k+1)(h:b64^k<=val b64 ws):Norm ws:=by
 unfold Norm
 intro e
 rw [C5r,hl,Nat.add_sub_cancel] at e
 have:=(Ax (B:=b64) (by decide) d hl).1
 have e2:ws.getD k 0=0:=by simp [C5e,e]
 rw [e2] at this
 omega
section
variable {h g:Heap} {K:VP} {A B:Option Addr} {ac bc:Nat}
theorem B33{Invv:LP}{muv:LN}{d1:ByteArray}{n c:Nat}{chunk base:Int}{us:List Int}{hp hp2:Heap}(p:Pw hp2 g A n c us)(hn:n=us.length)(du:Dig b64 us)(nu:Norm us)(hl:n<=100000000)(hch:0<=chunk/\chunk<18446744073709551616)(hba:1<=base/\base<18446744073709551616)
 (hK:∀ A' n' c' us' h' g',g.le g'->Pw h' g' A' n' c' us'->n'=us'.length->n'<=n+1->Dig b64 us'->Norm us'->val b64 us'=chunk+base*val b64 us->Invv [.string ((d1).extract ((B5 ((C58 (B5 (((C4s d1:Nat):Int)-(1:Int))) (19:Int))+(1:Int))).toNat) ((d1).size)),.slice A' n' c'] h'/\muv [.string ((d1).extract ((B5 ((C58 (B5 (((C4s d1:Nat):Int)-(1:Int))) (19:Int))+(1:Int))).toNat) ((d1).size)),.slice A' n' c'] h'<muv [.string d1,.slice A n c] hp):
 T2 prog Invv muv d1 A n c chunk base hp hp2:=by
 have hu0:=C7 (by decide) du
 unfold T2
 refine ⟨fun l hp3=>∃ (k:Nat) (ca:Int) (ws:List Int),l=[U ca,I k]/\k<=n/\(0<=ca/\ca<18446744073709551616)/\ws.length=us.length/\Dig b64 ws/\Pw hp3 g A n c ws/\ws.drop k=us.drop k/\val b64 (ws.take k)+b64^k*ca=chunk+base*val b64 (us.take k),fun l _=>n-(iAt l 1).toNat,⟨0,chunk,us,rfl,by omega,hch,rfl,du,p,rfl,by simp [val]⟩,?_⟩
 rintro ca i hp3 ⟨k,ca',ws,hli,hk,hca,hwl,dw,pw,hdr,hv⟩
 obtain ⟨rfl,rfl⟩:ca=ca'/\i=(k:Int):=by simpa using hli
 refine B6 (fun h1=>?_) (fun h1=>?_)
 ·have gw:=N0 dw k
  have hww:=E5 hdr
  have vu:=C5 b64 us k
  have hne:ws≠[]:=by rintro rfl;simp at hwl;omega
  obtain ⟨b,post,w,hc⟩:=Dj pw hne
  refine w.sl.load (by omega) (by omega) (by omega) ?_
  simp only [C35]
  generalize hx:ws.getD k 0=x at *
  refine R1 gw (by omega) hca ⟨_,_,rfl,?_⟩
  obtain ⟨a,ha,_⟩:=SlV.at w.sl (i:=k) (by simp;omega)
  refine ⟨a,ha,by omega,by omega,w.storeN F2 ha (by omega) ?_⟩
  intro h4 w4
  have bP:=Kl gw (show 0<=base/\base<18446744073709551616 by omega) hca
  have kP:=A0e (x*base+ca)
  have ek:B5 ((k:Int)+1)=((k+1:Nat):Int):=by rw [B7 (by omega) (by omega)];omega
  rw [ek]
  have p4:=w4.priv (m:=n) (c:=c) (by intro e0;have:=congrArg List.length e0;rw [List.length_set,List.length_nil] at this;exact hne (C37 this)) (by simpa using hc) (by simp;omega)
  rw [C39 (by simp;omega)] at p4
  refine ⟨⟨k+1,_,_,rfl,by omega,bP,by simpa using hwl,dw.set (Cr _),p4,?_,?_⟩,by simp only [iAt,C3b,C3c];omega⟩
  ·rw [D5 (by omega)];exact D7 hdr
  ·rw [C9 (by omega),E9,C3d,C3i (by omega),C3s,vu,<- hww,kP]
   show _+b64^k*_+b64^k*18446744073709551616*_=_
   generalize (x*base+ca)/18446744073709551616=q at *
   grind
 ·obtain rfl:k=n:=by omega
  rw [C39 (show ws.length<=k by omega),C39 (show us.length<=k by omega)] at hv
  refine H1 (fun h2=>?_) (fun h2=>?_)
  ·refine Cb O6 pw rfl rfl (by omega) (by omega) ?_
   intro A5 c5 h5 g5 l5 p5
   rw [<- C5d (f:=C3q .u64),<- C55] at p5
   refine hK A5 (k+1) c5 (ws++[ca]) h5 g5 l5 p5 (by simp;omega) (by omega) (dw.append (Dig.one hca)) ?_ ?_
   ·unfold Norm;simpa using h2
   ·rw [E9,<- hv,hwl,<- hn]
  ·subst h2
   rw [Int.mul_zero,Int.add_zero] at hv
   refine hK A k c ws hp3 g (B4 _) pw (by omega) (by omega) dw ?_ hv
   rcases us with _|⟨u,r⟩
   ·have:ws=[]:=C37 (by simpa using hwl)
    rw [this];exact Norm.nil
   ·refine A5u (k:=r.length) dw (by simpa using hwl) ?_
    have M:Mw hp2 A k (val b64 (u::r)):=⟨_,hn,p.slV,du,nu,rfl⟩
    have hge:=M.ge (by decide) (by simp at hn;omega)
    rw [show k-1=r.length by simp at hn;omega] at hge
    have:1*val b64 (u::r)<=base*val b64 (u::r):=C3a hba.1 hu0
    omega
end
section
variable {h g:Heap} {K:VP} {A B:Option Addr} {ac bc:Nat}
theorem B43{k:Nat}(h:k<=19):10^k<=10000000000000000000:=C51 (C59 (by decide) h) (by decide)
theorem A68{Invv:LP}{muv:LN}{d1:ByteArray}{n c tn:Nat}{T:Option Addr}{l:List UInt8}{hp hp1:Heap}(sv:SlV hp1 T (yv l))(ht:tn=l.length)(hd:∀ c∈l,G1 c)(h19:l.length<=19)
 (hK:(0<=B5 ((C58 (B5 (((C4s d1:Nat):Int)-(1:Int))) (19:Int))+(1:Int))/\B5 ((C58 (B5 (((C4s d1:Nat):Int)-(1:Int))) (19:Int))+(1:Int))<=(((d1).size:Nat):Int))/\T2 prog Invv muv d1 A n c (J0 l:Int) ((10^l.length:Nat):Int) hp hp1):
 Ce prog Invv muv d1 A n c T tn hp1 hp:=by
 subst ht
 unfold Ce
 refine ⟨fun s hp=>hp=hp1/\∃ k:Nat,s=[U (J0 (l.take k)),U ((10^k:Nat):Int),I k]/\k<=l.length,fun s _=>l.length-(iAt s 2).toNat,⟨rfl,0,by simp [J0],by omega⟩,?_⟩
 rintro ch ba i hp2 ⟨rfl,k,hli,hk⟩
 simp only [C3g,C3p,and_true,true_and] at hli
 obtain ⟨rfl,rfl,rfl⟩:=hli
 refine B6 (fun h1=>?_) (fun h1=>?_)
 ·have hkl:k<l.length:=by omega
  obtain ⟨a,ha,hc⟩:=SlV.at sv (i:=k) (by rw [Fi];omega)
  have hdc:=hd l[k] (C5j hkl)
  have hlt:=Ek (l:=l.take k) (fun c hc=>hd c (C5a hc))
  rw [C3d,C3i (by omega)] at hlt
  have ht1:=B43 (k:=k+1) (by omega)
  have hps:10^(k+1)=10^k*10:=Nat.pow_succ _ _
  refine ⟨a,ha,by omega,by omega,((l[k].toNat:Nat):Int),?_,?_⟩
  ·rw [C35,C41,hc];simp [yv]
  ·unfold G1 at hdc
   have e1:C0 (wu8 (((l[k].toNat:Nat):Int)-48))=((l[k].toNat-48:Nat):Int):=by
    rw [Ur (by omega) (by omega),C2 (by omega) (by omega)];omega
   have e2:C0 (C0 (10*((J0 (l.take k):Nat):Int))+C0 (wu8 (((l[k].toNat:Nat):Int)-48)))=((J0 (l.take (k+1)):Nat):Int):=by
    rw [e1,C2 (n:=10*((J0 (l.take k):Nat):Int)) (by omega) (by omega),C2 (by omega) (by omega),List.take_succ_eq_append_getElem hkl,Gk];omega
   have e3:C0 (((10^k:Nat):Int)*10)=((10^(k+1):Nat):Int):=by rw [C2 (by omega) (by omega),hps];simp
   have e4:B5 ((k:Int)+1)=((k+1:Nat):Int):=by rw [B7 (by omega) (by omega)];omega
   rw [e2,e3,e4]
   exact ⟨⟨rfl,k+1,rfl,by omega⟩,by simp only [iAt,C3b,C3c];omega⟩
 ·obtain rfl:k=l.length:=by omega
  rw [C4x]
  exact hK
theorem Pi{l:List UInt8}(hd:∀ c∈l,G1 c)(hl:l.length<=100000000)(hK:∀ A n c h',h.le h'->n<=c->Mw h' A n (J0 l:Int)->K (.slice A n c) h'):FCall prog L6 #[.string (bs l)] h K:=by
 refine Su _ ?_
 unfold Oy Il
 refine ⟨fun s hp=>∃ (l0 l1:List UInt8) (us:List Int) (A:Option Addr) (n c:Nat) (g:Heap),s=[.string (bs l1),.slice A n c]/\l=l0++l1/\h.le g/\Pw hp g A n c us/\n=us.length/\Dig b64 us/\Norm us/\val b64 us=(J0 l0:Int)/\n<=l0.length,fun s _=>match s with|[.string d,_]=>d.size|_=>0,⟨[],l,[],none,0,0,h,rfl,rfl,B4 h,Priv.nil _ _ _ _,rfl,Dig.nil,Norm.nil,rfl,by omega⟩,?_⟩
 rintro d1 A1 n1 c1 hp ⟨l0,l1,us,A2,n2,c2,g,hs,hll,lg,p,hn,du,nu,hv,hnl⟩
 simp only [C3g,C3l,Value.string.injEq,and_true] at hs
 obtain ⟨rfl,rfl,rfl,rfl⟩:=hs
 have hlen:l.length=l0.length+l1.length:=by rw [hll,C36]
 rw [I6]
 refine B6 (fun h1=>?_) (fun h1=>?_)
 ·obtain ⟨sz,hsz⟩:∃ sz,sz=(l1.length-1)%19+1:=⟨_,rfl⟩
  have e1:B5 (C58 (B5 ((l1.length:Int)-1)) 19+1)=(sz:Int):=by
   rw [B7 (n:=(l1.length:Int)-1) (by omega) (by omega),C4k (by omega),B7 (by omega) (by omega)];omega
  rw [e1,C35,N2]
  refine ⟨⟨by omega,by omega⟩,A5g T4 Et.und Cl ?_⟩
  intro T tc h2 l2 htc sv
  refine ⟨_,_,_,rfl,?_⟩
  have e2:(l1.drop 0).take (sz-0)=l1.take sz:=by simp
  rw [e2] at sv ⊢
  have e3:(l1.take sz).length=sz:=by rw [C3d];omega
  obtain ⟨g2,lg2,p2⟩:=p.after l2
  refine A68 sv rfl (fun c hc=>hd c (by rw [hll];exact List.mem_append_right _ (C5a hc))) (by omega) ?_
  rw [I6,e1]
  refine ⟨⟨by omega,by omega⟩,?_⟩
  have hlt:=Ek (l:=l1.take sz) (fun c hc=>hd c (by rw [hll];exact List.mem_append_right _ (C5a hc)))
  rw [e3] at hlt ⊢
  have ht:=B43 (k:=sz) (by omega)
  have hp1:0<10^sz:=C4i (by decide)
  refine B33 p2 hn du nu (by omega) (by omega) (by omega) ?_
  intro A' n' c' us' h' g' lg' p' hn' hnn du' nu' hv'
  rw [I6,e1,C35,N2,C39 (by rw [C3k];omega)]
  refine ⟨⟨l0++l1.take sz,l1.drop sz,us',A',n',c',g',rfl,by rw [C3h,C54];exact hll,B0 lg (B0 lg2 lg'),p',hn',du',nu',?_,by rw [C36,e3];omega⟩,?_⟩
  ·rw [hv',hv,Em,e3,C5n,C3t,C3m];omega
  ·simp only [I6,C3k];omega
 ·have:l1=[]:=C37 (by omega)
  subst this
  rw [C3w] at hll
  subst hll
  exact hK _ _ _ _ (B0 lg p.le) p.2.1 ⟨us,hn,p.slV,du,nu,hv⟩
end
def zb(l:List UInt8):List Int:=l.map fun c=>(c.toNat:Int)
theorem Fg(l:List UInt8):(zb l).length=l.length:=by simp [zb]
theorem Zj(a b:List UInt8):zb (a++b)=zb a++zb b:=by simp [zb]
theorem B82(l:List UInt8):(zb l).map (C3q .u8)=yv l:=by simp [zb,yv]
theorem A5m:∀ v,v<100->I3[2*v+1]? = some (dch (v%10))/\I3[2*v]? = some (dch (v/10)):=by decide +kernel
theorem Zt(a:Nat):C58 (a:Int) 100=((a%100:Nat):Int):=(C45 a 100).symm
theorem tm4(a:Nat):C58 (a:Int) 10000=((a%10000:Nat):Int):=(C45 a 10000).symm
theorem tm8(a:Nat):C58 (a:Int) 100000000=((a%100000000:Nat):Int):=(C45 a 100000000).symm
theorem A28(a:Nat):C4n (a:Int) 100=((a/100:Nat):Int):=(C40 a 100).symm
theorem td4(a:Nat):C4n (a:Int) 10000=((a/10000:Nat):Int):=(C40 a 10000).symm
theorem td8(a:Nat):C4n (a:Int) 100000000=((a/100000000:Nat):Int):=(C40 a 100000000).symm
theorem Fd{a:Nat}(h:a<4294967296):F4 (a:Int)=a:=N5 (by omega) (by omega)
theorem Kk(a:Nat):(a:Int)*2=((2*a:Nat):Int):=by omega
theorem A3f(a:Nat):(a:Int)+1=((a+1:Nat):Int):=by omega
def FBI(g:Heap)(b:Nat)(e:TypeId)(A:Option Addr)(pre post:List Value)(N u0 nd u:Nat)(hp:Heap):Prop:=
 ∃ (ys:List Int) (t:List UInt8),Win .u8 hp g b e A pre (ys++zb t) post/\ys.length=nd/\nd+t.length=N/\pad N u0=pad nd u++t/\u<10^nd
section
variable {P:Program} {h g:Heap} {K:VP} {A:Option Addr} {b:Nat} {e:TypeId} {pre post:List Value}
theorem It(one:P.cellsOf 5=1/\(P.info? 5).isSome=true){N u0 j u:Nat}(f:FBI g b e A pre post N u0 (j+2) u h){E1 E0 I1 I2:Int}(h1:E1=((2*(u%100)+1:Nat):Int))(h0:E0=((2*(u%100):Nat):Int))(hI1:I1=((j+1:Nat):Int))(hI2:I2=(j:Int)){C:Heap->Prop}(hC:∀ h',FBI g b e A pre post N u0 j (u/100) h'->C h'):
 ∃ (t:UInt8),(0<=E1/\I3[E1.toNat]? = some t)/\∃ (t0:UInt8),(0<=E0/\I3[E0.toNat]? = some t0)/\∃ a1,A=some a1/\0<=I1/\I1<((N:Nat):Int)/\wpH P (Instr.storeAt 5 (.pointer (some (Addr.add a1 (I1.toNat*1)))) (Y ((t.toNat:Nat):Int))) (fun _ hp1=>∃ a2,A=some a2/\0<=I2/\I2<((N:Nat):Int)/\wpH P (Instr.storeAt 5 (.pointer (some (Addr.add a2 (I2.toNat*1)))) (Y ((t0.toNat:Nat):Int))) (fun _ hp2=>C hp2) hp1) h:=by
 subst h1 h0 hI1 hI2
 obtain ⟨ys,t,w,hl,hN,hp,hu⟩:=f
 obtain ⟨s1,s0⟩:=A5m (u%100) (by omega)
 have hA:∃ a,A=some a:=by
  rcases w.at_ with h0|h0
  ·have:=congrArg List.length h0
   rw [C36,List.length_nil] at this;omega
  ·exact ⟨_,h0⟩
 obtain ⟨a,ha⟩:=hA
 have hlt:(ys++zb t).length=N:=by rw [C36,Fg];omega
 refine ⟨_,⟨by omega,by rw [C35];exact s1⟩,_,⟨by omega,by rw [C35];exact s0⟩,a,ha,by omega,by omega,?_⟩
 rw [C35]
 refine w.storeN one ha (by omega) ?_
 intro h2 w2
 refine ⟨a,ha,by omega,by omega,?_⟩
 rw [C35]
 refine w2.storeN one ha (by rw [List.length_set];omega) ?_
 intro h3 w3
 refine hC h3 ⟨ys.take j,[dch (u/10%10),dch (u%10)]++t,?_,by rw [C3d];omega,by simp;omega,?_,?_⟩
 ·have e1:((ys++zb t).set (j+1) ((dch (u%100%10)).toNat:Int)).set j ((dch (u%100/10)).toNat:Int)=ys.take j++zb ([dch (u/10%10),dch (u%10)]++t):=by
   have e2:ys=ys.take j++[ys[j]'(by omega),ys[j+1]'(by omega)]:=by
    conv=>lhs;rw [<- C54 j ys]
    congr 1
    rw [C4r (by omega),C4r (by omega),C3j (by omega)]
   have hj:(ys.take j).length=j:=by rw [C3d];omega
   rw [e2,show u%100%10=u%10 by omega,show u%100/10=u/10%10 by omega]
   generalize ys[j]'_=y0
   generalize ys[j+1]'_=y1
   rw [C3v (by omega),C39 (show (ys.take j).length<=j by omega)]
   generalize ys.take j=zs at *
   rw [C3h,List.set_append_right _ _ (by omega),List.set_append_right _ _ (by omega),hj,Zj]
   simp [zb]
  rw [e1] at w3;exact w3
 ·rw [hp,B6d];simp
 ·rw [C5b] at hu
  exact Nat.div_lt_of_lt_mul (by rw [C50];exact hu)
end
section
variable {h g:Heap} {K:VP} {A:Option Addr} {b:Nat} {e:TypeId} {pre post:List Value}
theorem Jr:prog.cellsOf 5=1/\(prog.info? 5).isSome=true:=A5l
theorem B8s{N u0 nd x:Nat}(hN:N<=24)(f:FBI g b e A pre post N u0 nd x h)(hn:nd<2)(hK:∀ h',Win .u8 h' g b e A pre (zb (pad N u0)) post->K (.tuple #[]) h'):Aa prog A N K nd x h:=by
 obtain ⟨ys,t,w,hl,hN,hp,hu⟩:=f
 unfold Aa
 refine B6 (fun h1=>?_) (fun h1=>?_)
 ·obtain rfl:nd=1:=by omega
  obtain ⟨y,rfl⟩:∃ y,ys=[y]:=by
   rcases ys with _|⟨y,_|⟨z,r⟩⟩
   ·simp at hl
   ·exact ⟨y,rfl⟩
   ·simp at hl
  have hA:∃ a,A=some a:=by
   rcases w.at_ with h0|h0
   ·simp at h0
   ·exact ⟨_,h0⟩
  obtain ⟨a,ha⟩:=hA
  refine ⟨a,ha,by omega,by omega,?_⟩
  rw [show ((0:Int)).toNat=0 from rfl]
  refine w.storeN Jr ha (by simp) ?_
  intro h2 w2
  refine hK h2 ?_
  have hx:x<10:=by simpa using hu
  have ev:wu8 (F4 (48+(x:Int)))=((dch x).toNat:Int):=by
   rw [N5 (by omega) (by omega),Ur (by omega) (by omega),Cy hx];omega
  rw [ev] at w2
  have e2:pad 1 x=[dch x]:=by
   rw [Px,A86 _ (by omega),show x%10=x by omega];rfl
  rw [hp,e2,Zj]
  simpa [zb] using w2
 ·obtain rfl:nd=0:=by omega
  have:ys=[]:=C37 hl
  subst this
  have hx:x=0:=by simpa using hu
  refine hK h ?_
  rw [hp,A86 _ hx]
  simpa using w
theorem B8r{N u0 nd x:Nat}(hN:N<=24)(f:FBI g b e A pre post N u0 nd x h)(hn:nd<4)(hK:∀ h',Win .u8 h' g b e A pre (zb (pad N u0)) post->K (.tuple #[]) h'):Ab prog A N K nd x h:=by
 unfold Ab
 have hx:x<10000:=by
  obtain ⟨_,_,_,_,_,_,hu⟩:=f
  exact C4m hu (C51 (C59 (by decide) (show nd<=4 by omega)) (by decide))
 refine ⟨fun l hp=>∃ nd x:Nat,l=[I nd,U32 x]/\FBI g b e A pre post N u0 nd x hp/\nd<2,B6 (fun h1=>?_) (fun h1=>?_),?_⟩
 ·obtain ⟨j,rfl⟩:∃ j,nd=j+2:=⟨nd-2,by omega⟩
  refine It Jr f ?_ ?_ (by rw [B7 (by omega) (by omega)];omega) (by rw [B7 (by omega) (by omega)];omega) ?_
  ·simp (disch:=omega) only [Zt,Fd,Kk,A3f]
  ·simp (disch:=omega) only [Zt,Fd,Kk]
  ·intro h2 f2
   refine ⟨j,x/100,?_,f2,by omega⟩
   rw [B7 (by omega) (by omega),A28,Fd (by omega)]
   simp only [C3g,C3p,and_true,true_and];omega
 ·exact ⟨nd,x,rfl,f,by omega⟩
 ·rintro nd2 x2 hp ⟨n3,x3,hl,f3,hn3⟩
  obtain ⟨rfl,rfl⟩:nd2=(n3:Int)/\x2=(x3:Int):=by simpa using hl
  exact B8s hN f3 hn3 hK
theorem U5{u an ac:Nat}{xs:List Int}(w:Win .u8 h g b e A pre xs post)(hn:an=xs.length)(hN:an<=24)(hu:u<10^an)(hu2:u<18446744073709551616)(hK:∀ h',Win .u8 h' g b e A pre (zb (pad an u)) post->K (.tuple #[]) h'):FCall prog P6 #[.slice A an ac,U (u:Int)] h K:=by
 refine Pt _ _ _ _ ?_
 unfold Mc
 refine ⟨fun l hp=>∃ nd v:Nat,l=[U v,I nd]/\FBI g b e A pre post an u nd v hp/\v<=u,fun l _=>(iAt l 1).toNat,⟨an,u,rfl,⟨xs,[],by simpa [zb] using w,hn.symm,by simp,by simp,hu⟩,C4d _⟩,?_⟩
 rintro u1 nd1 hp ⟨nd,v,hl,f,hv⟩
 obtain ⟨rfl,rfl⟩:u1=(v:Int)/\nd1=(nd:Int):=by simpa using hl
 have hnN:nd<=an:=by obtain ⟨_,_,_,_,hN,_,_⟩:=f;omega
 refine B6 (fun h1=>?_) (fun h1=>?_)
 ·obtain ⟨j,rfl⟩:∃ j,nd=j+8:=⟨nd-8,by omega⟩
  refine It (j:=j+6) Jr f ?_ ?_ (by rw [B7 (by omega) (by omega)];omega) (by rw [B7 (by omega) (by omega)];omega) ?_
  ·simp (disch:=omega) only [tm8,tm4,Zt,Fd,Kk,A3f];omega
  ·simp (disch:=omega) only [tm8,tm4,Zt,Fd,Kk];omega
  intro h2 f2
  refine It (j:=j+4) Jr f2 ?_ ?_ (by rw [B7 (by omega) (by omega)];omega) (by rw [B7 (by omega) (by omega)];omega) ?_
  ·simp (disch:=omega) only [tm8,tm4,A28,Fd,Kk,A3f];omega
  ·simp (disch:=omega) only [tm8,tm4,A28,Fd,Kk];omega
  intro h3 f3
  refine It (j:=j+2) Jr f3 ?_ ?_ (by rw [B7 (by omega) (by omega)];omega) (by rw [B7 (by omega) (by omega)];omega) ?_
  ·simp (disch:=omega) only [tm8,Zt,td4,Fd,Kk,A3f];omega
  ·simp (disch:=omega) only [tm8,Zt,td4,Fd,Kk];omega
  intro h4 f4
  refine It (j:=j) Jr f4 ?_ ?_ (by rw [B7 (by omega) (by omega)];omega) (by rw [B7 (by omega) (by omega)];omega) ?_
  ·simp (disch:=omega) only [tm8,A28,td4,Fd,Kk,A3f];omega
  ·simp (disch:=omega) only [tm8,A28,td4,Fd,Kk];omega
  intro h5 f5
  have e1:B5 (((j+8:Nat):Int)-8)=(j:Int):=by rw [B7 (by omega) (by omega)];omega
  have e2:C0 (C4n (v:Int) 100000000)=((v/100/100/100/100:Nat):Int):=by
   rw [td8,C2 (by omega) (by omega)];omega
  rw [e1,e2]
  exact ⟨⟨j,_,rfl,f5,by omega⟩,by simp only [iAt,C3b,C3c];omega⟩
 ·have hv8:v<100000000:=by
   obtain ⟨_,_,_,_,_,_,hu⟩:=f
   exact C4m hu (C51 (C59 (by decide) (show nd<=8 by omega)) (by decide))
  refine ⟨fun l hp=>∃ nd x:Nat,l=[I nd,U32 x]/\FBI g b e A pre post an u nd x hp/\nd<4,B6 (fun h2=>?_) (fun h2=>?_),?_⟩
  ·obtain ⟨j,rfl⟩:∃ j,nd=j+4:=⟨nd-4,by omega⟩
   refine It (j:=j+2) Jr f ?_ ?_ (by rw [B7 (by omega) (by omega)];omega) (by rw [B7 (by omega) (by omega)];omega) ?_
   ·simp (disch:=omega) only [tm4,Zt,Fd,Kk,A3f];omega
   ·simp (disch:=omega) only [tm4,Zt,Fd,Kk];omega
   intro h3 f3
   refine It (j:=j) Jr f3 ?_ ?_ (by rw [B7 (by omega) (by omega)];omega) (by rw [B7 (by omega) (by omega)];omega) ?_
   ·simp (disch:=omega) only [tm4,A28,Fd,Kk,A3f];omega
   ·simp (disch:=omega) only [tm4,A28,Fd,Kk];omega
   intro h4 f4
   refine ⟨j,v/100/100,?_,f4,by omega⟩
   rw [B7 (by omega) (by omega),Fd (by omega),td4,Fd (by omega)]
   simp only [C3g,C3p,and_true,true_and];omega
  ·exact ⟨nd,v,by rw [Fd (by omega)],f,by omega⟩
  ·rintro nd2 x2 hp2 ⟨n3,x3,hl3,f3,hn3⟩
   obtain ⟨rfl,rfl⟩:nd2=(n3:Int)/\x2=(x3:Int):=by simpa using hl3
   exact B8r hN f3 hn3 hK
end
theorem Rn{P:Program}{h:Heap}{l:List UInt8}{m:Nat}{ys:List Value}(hy:ys=yv l)(hm:m=l.length){K:Array Value->Heap->Prop}(x:K ys.toArray h):wpH P (Builtin.firstCells 1 m (.string (bs l))) K h:=by
 subst hm hy
 show K _ h
 have e:((bs l).extract 0 l.length).data.map (fun b=>C3q .u8 b.toNat)=(yv l).toArray:=by
  rw [N2]
  apply Array.toList_inj.1
  simp [bs,yv]
 rw [e];exact x
theorem Sn{P:Program}{t e e' ty:TypeId}{z:Value}{bytes:Nat}(st:SliceT P t e z 1 bytes){h g:Heap}{A:Option Addr}{n c:Nat}{xs:List Value}(p:Priv h g e' 1 A n c xs)
 {B:Option Addr} {m d:Nat} {ys:List Value} (hy:ys.length=m) (hc:SlV h B ys) (h1:∀ v∈ys,A1v v=true) (hb:(2*(n+m)+192)*bytes<=281474976710656) (hm:n+m<=9223372036854775807) {K:VP}
 (x1:n+m<=c->∀ h',Priv h' g e' 1 A (n+m) c (xs++ys)->K (.slice A (n+m) c) h') (x2:c<n+m->∀ A' c' h' g',g.le g'->Priv h' g' e 1 A' (n+m) c' (xs++ys)->K (.slice A' (n+m) c') h'):
 wpH P (C4b #[t,t] ty #[.slice A n c,.slice B m d]) K h:=by
 obtain ⟨i,hi,hz,hsz,hby⟩:=st.parts
 have hposx:=st.pos
 have hp1:=p.1
 rw [C41] at hp1
 unfold C4b
 simp only [C56,C3b,C3c,C6,E7 st.und,K4 hi,F7,C4o,if_false,Builtin.lenOf,hsz,Bool.not_false,if_true]
 by_cases hfit:n+m<=c
 ·simp only [hfit,if_true,C6]
  refine L0 (by omega) hc ?_
  rcases p.2.2 with ⟨hc0,hg⟩|⟨b,arr,hA,hgb,hh,hal,hat⟩
  ·have hn0:n=0:=by omega
   have hm0:m=0:=by omega
   subst hn0;subst hg
   have hys:ys=[]:=C37 (by omega)
   have hxs:xs=[]:=C37 (by omega)
   have fin:K (.slice A (0+m) c) h:=x1 hfit h ⟨by rw [hys,hxs,hm0];rfl,by omega,.inl ⟨hc0,rfl⟩⟩
   subst hys
   cases A with
   | none=>exact fin
   | some a=>exact fin
  ·subst hA
   simp only [C6,D8,C4z]
   rw [hh]
   rw [C41] at hal hat ⊢
   refine I0 ys.toArray.toList n 0 arr ?_ (fun v hv=>h1 v (by simpa using hv)) ?_
   ·simp only
    omega
   ·simp only [F7,Nat.add_zero]
    refine x1 hfit _ ⟨by rw [C36];omega,hfit,.inr ⟨b,_,rfl,hgb,rfl,?_,?_⟩⟩
    ·simp only [J7,C36,C3d,C3k,hal,hy];omega
    ·have hl1:(arr.take n).length=n:=by rw [C3d,hal];omega
     unfold J7
     have t1:(arr.take n).take (n+m)=arr.take n:=C39 (by rw [hl1];omega)
     have t2:ys.take m=ys:=C39 (by omega)
     rw [C41,C3h,C4f,hl1,C4u,C4f,t1,t2,hy,Nat.sub_self,List.take_zero,C3w,hat]
 ·have hlt:c<n+m:=by omega
  simp only [hfit,if_false,C6,H2 hi,hby]
  have hnx:=Mz hlt
  have hnb:Builtin.nextslicecap (n+m) c*bytes<=281474976710656:=C51 (Nat.mul_le_mul_right _ hnx) hb
  rw [if_neg (by rintro ⟨h',_⟩;simp only [IntKind.max,IntKind.signed,IntKind.bits] at h';simp at h';omega)]
  simp only [C6,H2 hi,hby]
  rw [if_neg (by simp only [show (2^48:Nat)=281474976710656 from rfl];omega)]
  simp only [F7,C6]
  refine Hh rfl fun tt=>?_
  simp only [Dl,H2 hi]
  have hold:xs=[]\/∃ a,A=some a/\∀ j v,xs[j]? = some v->h.cell? (a.add j)=some v:=p.slV
  refine L0 p.1 hold ?_
  refine L0 (by omega) hc ?_
  simp only [Q0 hi hz,Q1]
  intro b hfree
  have hcut:∃ nc,(Question.appendCap (n+m) c e).cut tt=nc/\n+m<=nc:=⟨_,rfl,by simp only [Question.cut];omega⟩
  obtain ⟨nc,hnc,hge⟩:=hcut
  rw [hnc]
  have hgle:=p.le
  refine x2 hlt _ nc _ h hgle ⟨by rw [C36];omega,hge,.inr ⟨b,xs++ys++(C43 z.cells (nc-(n+m))).toList,rfl,hfree,?_,?_,?_⟩⟩
  ·congr 1;simp
  ·have hzl:(C43 z.cells (nc-(n+m))).toList.length=nc-(n+m):=by simp [C43,st.cells]
   rw [C36,C36,hp1,hy,hzl];omega
  ·rw [C41,C3v (by rw [C36];omega),C39 (by rw [C36];omega)]
theorem A6a{P:Program}{t e e' ty t2:TypeId}{z:Value}{bytes:Nat}(st:SliceT P t e z 1 bytes)(hu:P.underlying t2=some .string){h g:Heap}{A:Option Addr}{n c:Nat}{xs:List Value}(p:Priv h g e' 1 A n c xs)
 {m:Nat} {l:List UInt8} {ys:List Value} (hly:ys=yv l) (hm0:m=l.length) (hy:ys.length=m) (h1:∀ v∈ys,A1v v=true) (hb:(2*(n+m)+192)*bytes<=281474976710656) (hm:n+m<=9223372036854775807) {K:VP}
 (x1:n+m<=c->∀ h',Priv h' g e' 1 A (n+m) c (xs++ys)->K (.slice A (n+m) c) h') (x2:c<n+m->∀ A' c' h' g',g.le g'->Priv h' g' e 1 A' (n+m) c' (xs++ys)->K (.slice A' (n+m) c') h'):
 wpH P (C4b #[t,t2] ty #[.slice A n c,.string (bs l)]) K h:=by
 obtain ⟨i,hi,hz,hsz,hby⟩:=st.parts
 have hposx:=st.pos
 have hp1:=p.1
 rw [C41] at hp1
 unfold C4b
 simp only [C56,C3b,C3c,C6,E7 st.und,E7 hu,K4 hi,F7,C4o,if_false,Builtin.lenOf,hsz,Bool.not_false,if_true,I6,<- hm0]
 by_cases hfit:n+m<=c
 ·simp only [hfit,if_true,C6]
  refine Rn hly hm0 ?_
  rcases p.2.2 with ⟨hc0,hg⟩|⟨b,arr,hA,hgb,hh,hal,hat⟩
  ·have hn0:n=0:=by omega
   have hm0:m=0:=by omega
   subst hn0;subst hg
   have hys:ys=[]:=C37 (by omega)
   have hxs:xs=[]:=C37 (by omega)
   have fin:K (.slice A (0+m) c) h:=x1 hfit h ⟨by rw [hys,hxs,hm0];rfl,by omega,.inl ⟨hc0,rfl⟩⟩
   subst hys
   cases A with
   | none=>exact fin
   | some a=>exact fin
  ·subst hA
   simp only [C6,D8,C4z]
   rw [hh]
   rw [C41] at hal hat ⊢
   refine I0 ys.toArray.toList n 0 arr ?_ (fun v hv=>h1 v (by simpa using hv)) ?_
   ·simp only
    omega
   ·simp only [F7,Nat.add_zero]
    refine x1 hfit _ ⟨by rw [C36];omega,hfit,.inr ⟨b,_,rfl,hgb,rfl,?_,?_⟩⟩
    ·simp only [J7,C36,C3d,C3k,hal,hy];omega
    ·have hl1:(arr.take n).length=n:=by rw [C3d,hal];omega
     unfold J7
     have t1:(arr.take n).take (n+m)=arr.take n:=C39 (by rw [hl1];omega)
     have t2:ys.take m=ys:=C39 (by omega)
     rw [C41,C3h,C4f,hl1,C4u,C4f,t1,t2,hy,Nat.sub_self,List.take_zero,C3w,hat]
 ·have hlt:c<n+m:=by omega
  simp only [hfit,if_false,C6,H2 hi,hby]
  have hnx:=Mz hlt
  have hnb:Builtin.nextslicecap (n+m) c*bytes<=281474976710656:=C51 (Nat.mul_le_mul_right _ hnx) hb
  rw [if_neg (by rintro ⟨h',_⟩;simp only [IntKind.max,IntKind.signed,IntKind.bits] at h';simp at h';omega)]
  simp only [C6,H2 hi,hby]
  rw [if_neg (by simp only [show (2^48:Nat)=281474976710656 from rfl];omega)]
  simp only [F7,C6]
  refine Hh rfl fun tt=>?_
  simp only [Dl,H2 hi]
  have hold:xs=[]\/∃ a,A=some a/\∀ j v,xs[j]? = some v->h.cell? (a.add j)=some v:=p.slV
  refine L0 p.1 hold ?_
  refine Rn hly hm0 ?_
  simp only [Q0 hi hz,Q1]
  intro b hfree
  have hcut:∃ nc,(Question.appendCap (n+m) c e).cut tt=nc/\n+m<=nc:=⟨_,rfl,by simp only [Question.cut];omega⟩
  obtain ⟨nc,hnc,hge⟩:=hcut
  rw [hnc]
  have hgle:=p.le
  refine x2 hlt _ nc _ h hgle ⟨by rw [C36];omega,hge,.inr ⟨b,xs++ys++(C43 z.cells (nc-(n+m))).toList,rfl,hfree,?_,?_,?_⟩⟩
  ·congr 1;simp
  ·have hzl:(C43 z.cells (nc-(n+m))).toList.length=nc-(n+m):=by simp [C43,st.cells]
   rw [C36,C36,hp1,hy,hzl];omega
  ·rw [C41,C3v (by rw [C36];omega),C39 (by rw [C36];omega)]
theorem Wx(l:List UInt8):∀ v∈yv l,A1v v=true:=by
 intro v hv
 simp only [yv,List.mem_map] at hv
 obtain ⟨c,_,rfl⟩:=hv
 rfl
theorem Eo{P:Program}{t:TypeId}{z v:Value}(hz:(P.info? t).map (fun i=>i.zero)=some (some z)){K:VP}{h:Heap}(x:∀ b,h b=none->K (.pointer (some ⟨b,0,none⟩)) (h.put b (.cells z.cells t))):wpH P (Instr.alloc t true v) K h:=by
 cases hi:P.info? t with
 | none=>rw [hi] at hz;cases hz
 | some i=>
  rw [hi] at hz
  simp only [Option.map_some,C5h] at hz
  unfold Instr.alloc
  simp only [C6,Q0 hi hz]
  unfold newVar
  simp only [Q1,F7]
  exact x
theorem A51:(prog.info? Qo).map (fun i=>i.zero)=some (some (.agg (C4c 24 (.int .u8 0)))):=by kernel_rfl
def Gp(h:Heap):Prop:=∀ k,k<20->h.cell? (Addr.add ⟨2,0,none⟩ (k*1))=some (U ((10^k:Nat):Int))
theorem Gp.mono{h h':Heap}(g:Gp h)(l:h.le h'):Gp h':=fun k hk=>B9 l (g k hk)
section
variable {h g:Heap} {K:VP}
theorem Uv{i:Nat}(hi:i<100)(hK:K (.string (bs (L9 i))) h):FCall prog Qa #[I i] h K:=by
 refine B0o _ ?_
 unfold B58
 have key:∀ i:Nat,i<100->(i<10->Xb.extract i (i+1)=bs (L9 i))/\(¬ i<10->I3.extract (2*i) (2*i+2)=bs (L9 i)):=by
  intro i hi
  have hd:L9 i=if i<10 then [dch i] else [dch (i/10),dch (i%10)]:=by
   split
   ·by_cases h0:i=0
    ·subst h0;rfl
    ·rw [W6 h0,Ae h0,show i/10=0 by omega,J2,show i%10=i by omega];rfl
   ·rw [W6 (by omega),Ae (by omega),Ae (by omega),show i/10/10=0 by omega,J2,show i/10%10=i/10 by omega];rfl
  rw [hd]
  revert i
  decide +kernel
 obtain ⟨k1,k2⟩:=key i hi
 refine B6 (fun h1=>?_) (fun h1=>?_)
 ·have e1:B5 ((i:Int)+1)=((i+1:Nat):Int):=by rw [B7 (by omega) (by omega)];omega
  rw [e1,C35,C35,k1 (by omega)]
  exact ⟨⟨by omega,by show _<=((36:Nat):Int);omega⟩,⟨by omega,by omega⟩,hK⟩
 ·have e1:B5 ((i:Int)*2)=((2*i:Nat):Int):=by rw [B7 (by omega) (by omega)];omega
  have e2:B5 (((2*i:Nat):Int)+2)=((2*i+2:Nat):Int):=by rw [B7 (by omega) (by omega)];omega
  rw [e1,e2,C35,C35,k2 (by omega)]
  exact ⟨⟨by omega,by show _<=((200:Nat):Int);omega⟩,⟨by omega,by omega⟩,hK⟩
theorem Cc{d:Nat}(gp:Gp h)(h0:d≠0)(hd:d<18446744073709551616)(hK:K (I ((dd d).length:Int)) h):FCall prog Y2 #[U (d:Int)] h K:=by
 refine Yr _ ?_
 unfold Vq
 have hb:N3 d<=64:=Gr hd
 obtain ⟨_,_,hn⟩:=B4a (N3 d) (by omega)
 refine A4i hd ⟨_,rfl,Ys _ ?_⟩
 unfold Vr
 have e1:C5g (B5 ((N3 d:Int)*78913)) (2^(min ((18:Int)).toNat 64))=((ndg (N3 d):Nat):Int):=by
  rw [show (2:Int)^(min ((18:Int)).toNat 64)=262144 by decide,Int.fdiv_eq_ediv_of_nonneg _ (by decide),B7 (by omega) (by omega)]
  unfold ndg;omega
 rw [e1]
 refine ⟨_,rfl,⟨by omega,by omega⟩,_,by rw [C35];exact gp _ (by omega),B0p _ ?_⟩
 unfold B59
 rw [B8l h0 hd] at hK
 refine B6 (fun h1=>⟨_,rfl,?_⟩) (fun h1=>⟨_,rfl,?_⟩)
 ·rw [if_pos (by omega)] at hK
  rw [B7 (by omega) (by omega)]
  exact hK
 ·rw [if_neg (by omega)] at hK
  rw [B7 (by omega) (by omega)]
  exact hK
theorem So{e':TypeId}{A:Option Addr}{n c i:Nat}{l:List UInt8}(gp:Gp h)(p:Priv h g e' 1 A n c (yv l))(hi:i<18446744073709551616)(hn:n<=1000000000000)
 (hK:∀ A' c' e2 h' g',g.le g'->Priv h' g' e2 1 A' (n+(L9 i).length) c' (yv (l++L9 i))->(n+(L9 i).length<=c->A'=A/\c'=c/\e2=e')->(e'=F5->e2=F5)->K (.slice A' (n+(L9 i).length:Nat) c') h'):FCall prog Ec #[.slice A n c,U (i:Int),I 10] h K:=by
 refine Uk _ _ _ _ _ ?_
 unfold Th
 refine D9 (fun _=>?_) (fun e=>absurd rfl e)
 have hdl:(L9 i).length<=20:=(Qi (by decide)).2 (by show i<10^20;omega)
 refine B6 (fun h1=>?_) (fun h1=>?_)
 ·rw [B7 (by omega) (by omega)]
  refine Uv (by omega) ⟨_,rfl,?_⟩
  refine A6a Et T4 p (l:=L9 i) rfl rfl (Fi _) (Wx _) (by omega) (by omega) ?_ ?_
  ·intro hf h' p'
   rw [<- R9] at p'
   exact ⟨_,_,_,rfl,hK _ _ _ _ _ (B4 _) p' (fun _=>⟨rfl,rfl,rfl⟩) id⟩
  ·intro hf A' c' h' g' lg p'
   rw [<- R9] at p'
   exact ⟨_,_,_,rfl,hK _ _ _ _ _ lg p' (fun e=>by omega) (fun _=>rfl)⟩
 ·refine Eo A51 ?_
  intro b hb
  have hz:(Value.agg (C4c 24 (.int .u8 0))).cells=((C34 24 (0:Int)).map (C3q .u8)).toArray:=by rfl
  rw [hz]
  have w0:Win .u8 (h.put b (.cells ((C34 24 (0:Int)).map (C3q .u8)).toArray Qo)) h b Qo (some ⟨b,0,none⟩) [] (C34 24 (0:Int)) []:=⟨hb,by simp,.inr rfl⟩
  generalize (h.put b (.cells ((C34 24 (0:Int)).map (C3q .u8)).toArray Qo))=h1' at *
  refine ⟨_,rfl,Cc (gp.mono w0.le) (by omega) hi ⟨_,rfl,?_⟩⟩
  have hdd:L9 i=dd i:=W6 (by omega)
  rw [hdd] at hdl hK
  refine ⟨⟨by omega,by omega⟩,?_⟩
  rw [C35,C48]
  have w1:=w0.sub (l:=0) (m:=(dd i).length) (c:=24) (by omega) (by simp;omega) (by simp)
  have hw1:((C34 24 (0:Int)).drop 0).take ((dd i).length-0)=C34 (dd i).length 0:=by
   rw [C4q,C46,C48,C3i (by omega)]
  rw [hw1] at w1
  have hlt:i<10^(dd i).length:=P7.1 (C4d _)
  refine U5 w1 (by simp) (by omega) hlt hi ?_
  intro h2 w2
  refine ⟨rfl,⟨by omega,by omega⟩,?_⟩
  have hpd:pad (dd i).length i=dd i:=by simp [pad]
  rw [hpd] at w2
  have hs:SlV h2 (K0 (some ⟨b,0,none⟩) 24 0 1) (yv (dd i)):=by
   have:=w2.sl
   unfold SlI at this
   rw [B82] at this
   exact this
  have hh2:=w2.eq
  obtain ⟨o,ho⟩:∃ o,h2=h.put b o:=⟨_,hh2⟩
  subst ho
  have p2:=p.put hb o
  have lgg:g.le (g.put b o):=by
   intro k o' hk
   have hne:k≠b:=by
    rintro rfl
    rw [p.le k o' hk] at hb;cases hb
   rw [B8 _ _ hne];exact hk
  refine Sn Et p2 (Fi _) hs (Wx _) (by omega) (by omega) ?_ ?_
  ·intro hf h' p'
   rw [<- R9] at p'
   exact ⟨_,_,_,rfl,hK _ _ _ _ _ lgg p' (fun _=>⟨rfl,rfl,rfl⟩) id⟩
  ·intro hf A' c' h' g' lg p'
   rw [<- R9] at p'
   exact ⟨_,_,_,rfl,hK _ _ _ _ _ (B0 lgg lg) p' (fun e=>by omega) (fun _=>rfl)⟩
end
structure Ext (g:Heap) (e':TypeId) (A:Option Addr) (n c:Nat) (l t:List UInt8) (A':Option Addr) (n' c':Nat) (e2:TypeId) (g' h':Heap):Prop where
 le:g.le g'
 priv:Priv h' g' e2 1 A' n' c' (yv (l++t))
 len:n'=n+t.length
 fit:n+t.length<=c->A'=A/\c'=c/\e2=e'
 tag:e'=F5->e2=F5
theorem Ext.trans{g g1 g2 h1 h2:Heap}{e' e1 e2:TypeId}{A A1 A2:Option Addr}{n c n1 c1 n2 c2:Nat}{l t s:List UInt8}(x:Ext g e' A n c l t A1 n1 c1 e1 g1 h1)(y:Ext g1 e1 A1 n1 c1 (l++t) s A2 n2 c2 e2 g2 h2):Ext g e' A n c l (t++s) A2 n2 c2 e2 g2 h2:=by
 refine ⟨B0 x.le y.le,?_,?_,?_,fun e=>y.tag (x.tag e)⟩
 ·have:=y.priv;rwa [C3h] at this
 ·rw [y.len,x.len,C36];omega
 ·intro hf
  rw [C36] at hf
  obtain ⟨rfl,rfl,rfl⟩:=x.fit (by omega)
  have hx:=x.len
  exact y.fit (by omega)
section
variable {h g:Heap} {K:VP} {A:Option Addr} {n c:Nat} {e':TypeId} {l:List UInt8}
theorem Ew{i:Nat}(gp:Gp h)(p:Priv h g e' 1 A n c (yv l))(hi:i<18446744073709551616)(hn:n<=1000000000000)
 (hK:∀ A' n' c' e2 g' h',Ext g e' A n c l (L9 i) A' n' c' e2 g' h'->K (.slice A' n' c') h'):FCall prog Eh #[.slice A n c,U (i:Int),I 10] h K:=by
 refine Uq _ _ _ _ _ ?_
 unfold Tp
 refine So gp p hi hn ?_
 intro A' c' e2 h' g' l1 p1 f1 b1
 exact ⟨_,_,_,rfl,hK _ _ _ _ _ _ ⟨l1,p1,rfl,f1,b1⟩⟩
theorem Kg{ch:UInt8}{v:Int}(hv:v=(ch.toNat:Int))(p:Priv h g e' 1 A n c (yv l))(hn:n<=1000000000000){KK:Option Addr->Nat->Nat->Heap->Prop}
 (x:∀ A' n' c' e2 g' h',Ext g e' A n c l [ch] A' n' c' e2 g' h'->KK A' n' c' h'):
 wpH prog (Instr.buildSlice Fk 1 #[(0,Y v)]) (fun v1 hp1=>∃ (A1:Option Addr) (n1 c1:Nat),v1= .slice A1 n1 c1/\wpH prog (C4b #[Fk,Fk] Fk #[.slice A n c,.slice A1 n1 c1]) (fun v2 hp2=>∃ (A2:Option Addr) (n2 c2:Nat),v2= .slice A2 n2 c2/\KK A2 n2 c2 hp2) hp1) h:=by
 subst hv
 refine Y7 Et rfl ?_
 intro b hfree
 refine ⟨_,_,_,rfl,?_⟩
 have p':=p.put hfree (.cells #[Y (ch.toNat:Int)] F5)
 have lgg:g.le (g.put b (.cells #[Y (ch.toNat:Int)] F5)):=by
  intro k o' hk
  have hne:k≠b:=by
   rintro rfl
   rw [p.le k o' hk] at hfree;cases hfree
  rw [B8 _ _ hne];exact hk
 have hs:SlV (h.put b (.cells #[Y (ch.toNat:Int)] F5)) (some ⟨b,0,none⟩) (yv [ch]):=by
  refine .inr ⟨_,rfl,fun j u hj=>?_⟩
  rw [D8,E6]
  match j with
  | 0=>simpa [yv] using hj
  | j+1=>simp [yv] at hj
 refine Sn Et p' (m:=1) (ys:=yv [ch]) rfl hs (Wx _) (by omega) (by omega) ?_ ?_
 ·intro hf h' p2
  rw [<- R9] at p2
  exact ⟨_,_,_,rfl,x _ _ _ _ _ _ ⟨lgg,p2,rfl,fun _=>⟨rfl,rfl,rfl⟩,id⟩⟩
 ·intro hf A' c' h' g' lg p2
  rw [<- R9] at p2
  exact ⟨_,_,_,rfl,x _ _ _ _ _ _ ⟨B0 lgg lg,p2,rfl,fun e=>by simp at e;omega,fun _=>rfl⟩⟩
theorem A3x{i:Int}(h:i<0):Io i=[45]++L9 i.natAbs:=by unfold Io;rw [if_pos h];rfl
theorem Pu{i:Int}(h:¬ i<0):Io i=L9 i.natAbs:=by unfold Io;rw [if_neg h]
theorem Zl{b:Nat}{e:TypeId}{B:Option Addr}{pre post:List Value}{s:List UInt8}(w:Win .u8 h g b e B pre (zb s) post):SlV h B (yv s):=by
 have:=w.sl
 unfold SlI at this
 rw [B82] at this
 exact this
theorem Ty{i:Int}(gp:Gp h)(h1: -9223372036854775808<=i)(h2:i<9223372036854775808)(hK:K (.string (bs (Io i))) h):FCall prog Gi #[I i,I 10] h K:=by
 refine FCall.pure (Ze _ _ ?_)
 unfold Wd
 refine Yu _ _ ?_
 unfold Vt
 refine D9 (fun _=>?_) (fun e=>absurd rfl e)
 refine ⟨fun L hp=>L=[.bool (decide (0<=i/\i<100))]/\hp=h,B6 (fun h3=>⟨by simp [h3],rfl⟩) (fun h3=>⟨by simp [h3],rfl⟩),?_⟩
 rintro t17 hp ⟨hL,rfl⟩
 obtain rfl:t17=decide (0<=i/\i<100):=by simpa using hL
 refine B6 (fun h3=>?_) (fun h3=>?_)
 ·obtain ⟨k,rfl⟩:∃ k:Nat,i=k:=⟨i.toNat,by omega⟩
  refine Uv (by omega) ⟨_,rfl,⟨_,rfl,B4 _,?_⟩⟩
  rw [Pu (by omega)] at hK
  exact hK
 ·refine Eo A51 ?_
  intro b hb
  have hz:(Value.agg (C4c 24 (.int .u8 0))).cells=((C34 24 (0:Int)).map (C3q .u8)).toArray:=by rfl
  rw [hz]
  have w0:Win .u8 (hp.put b (.cells ((C34 24 (0:Int)).map (C3q .u8)).toArray Qo)) hp b Qo (some ⟨b,0,none⟩) [] (C34 24 (0:Int)) []:=⟨hb,by simp,.inr rfl⟩
  generalize (hp.put b (.cells ((C34 24 (0:Int)).map (C3q .u8)).toArray Qo))=hp1 at *
  refine ⟨_,rfl,?_⟩
  obtain ⟨u,hu⟩:∃ u:Nat,u=i.natAbs:=⟨_,rfl⟩
  have hu0:u≠0:=by omega
  have hd:L9 u=dd u:=W6 hu0
  have hdl:(dd u).length<=20:=P7.2 (by show u<10^20;omega)
  have e1:B5 (1+(((dd u).length:Nat):Int))=((1+(dd u).length:Nat):Int):=by rw [B7 (by omega) (by omega)];omega
  have w1:=w0.sub (l:=1) (m:=1+(dd u).length) (c:=24) (by omega) (by simp;omega) (by simp)
  have hw1:((C34 24 (0:Int)).drop 1).take (1+(dd u).length-1)=C34 (dd u).length 0:=by
   rw [C47,C46,C3i (by omega)];congr 1;omega
  rw [hw1] at w1
  have hlt:u<10^(dd u).length:=P7.1 (C4d _)
  have hpd:pad (dd u).length u=dd u:=by simp [pad]
  have hn1:1+(dd u).length-1=(dd u).length:=by omega
  refine B6 (fun hi=>?_) (fun hi=>?_)
  ·rw [A3x hi,<- hu,hd] at hK
   have e:C0 (0-C0 i)=(u:Int):=by rw [E8,E8];omega
   rw [e]
   refine Cc (gp.mono w0.le) hu0 (by omega) ⟨_,rfl,?_⟩
   rw [e1,C35]
   refine ⟨⟨by omega,by omega⟩,⟨by omega,by omega⟩,?_⟩
   rw [show ((1:Int)).toNat=1 from rfl,hn1]
   refine U5 w1 (by simp) (by omega) hlt (by omega) ?_
   intro hp2 w2
   rw [hpd] at w2
   refine ⟨rfl,B6 (fun _=>?_) (fun h4=>absurd hi h4)⟩
   have w3:=w0.whole (l:=1) (m:=1+(dd u).length) (by omega) (by simp;omega) (by rw [Fg];omega) w2
   refine ⟨⟨by omega,by omega⟩,?_⟩
   rw [show ((0:Int)).toNat=0 from rfl]
   refine w3.storeN Jr rfl (by simp) ?_
   intro hp4 w4
   refine ⟨⟨by omega,by omega⟩,?_⟩
   have w5:=w4.sub (l:=0) (m:=1+(dd u).length) (c:=24) (by omega) (by simp [Fg];omega) (by simp [Fg];omega)
   have e5:((((C34 24 (0:Int)).take 1++zb (dd u)++(C34 24 (0:Int)).drop (1+(dd u).length)).set 0 45).drop 0).take (1+(dd u).length-0)=zb ([45]++dd u):=by
    rw [C4q,C46,show min 1 24=1 from rfl,show C34 1 (0:Int)=[0] from rfl,C3h,List.singleton_append,List.set_cons_zero,C48,Nat.add_comm 1,List.take_succ_cons,C53 (Fg _)]
    rfl
   rw [e5] at w5
   refine Jv Et.und Cl T4 (Zl w5) (by simp;omega) ⟨_,rfl,_,rfl,?_,hK⟩
   exact w4.le
  ·rw [Pu hi,<- hu,hd] at hK
   have e:C0 i=(u:Int):=by rw [E8];omega
   rw [e]
   refine Cc (gp.mono w0.le) hu0 (by omega) ⟨_,rfl,?_⟩
   rw [e1,C35]
   refine ⟨⟨by omega,by omega⟩,⟨by omega,by omega⟩,?_⟩
   rw [show ((1:Int)).toNat=1 from rfl,hn1]
   refine U5 w1 (by simp) (by omega) hlt (by omega) ?_
   intro hp2 w2
   rw [hpd] at w2
   refine ⟨rfl,B6 (fun h4=>absurd h4 hi) (fun _=>?_)⟩
   refine ⟨⟨by omega,by omega⟩,⟨by omega,by omega⟩,?_⟩
   exact Jv Et.und Cl T4 (Zl w2) rfl ⟨_,rfl,_,rfl,w2.le,hK⟩
theorem Ub{s q:List UInt8}(hK:K (.tuple #[.string (bs (if q <+: s then s.drop q.length else s)),.bool (decide (q <+: s))]) h):FCall prog Gj #[.string (bs s),.string (bs q)] h K:=by
 refine Zf _ _ ?_
 unfold We
 refine Yv _ _ ?_
 unfold Vu
 have hp:FCall prog Gb #[.string (bs s),.string (bs q)] h (fun r hp=>r= .bool (decide (q <+: s))/\hp=h):=by
  refine Yt _ _ ?_
  unfold Vs
  simp only [I6]
  refine B6 (fun h1=>?_) (fun h1=>?_)
  ·refine ⟨⟨by omega,by omega⟩,?_,trivial⟩
   rw [C35,N2,Gn]
   congr 1
   rw [decide_eq_decide,C4q,C48,List.prefix_iff_eq_take]
   exact eq_comm
  ·refine ⟨?_,trivial⟩
   congr 1
   symm
   rw [decide_eq_false_iff_not]
   intro hq
   have:=hq.length_le
   omega
 refine hp.mono ?_
 rintro r hp2 ⟨rfl,rfl⟩
 refine ⟨_,rfl,O5 (B6 (fun h1=>?_) (fun h1=>?_))⟩
 ·rw [if_pos h1,decide_eq_true h1] at hK
  have:=h1.length_le
  simp only [I6]
  refine ⟨⟨by omega,by omega⟩,_,_,rfl,?_⟩
  rw [C35,N2,C39 (by rw [C3k];omega)]
  exact hK
 ·rw [if_neg h1,decide_eq_false h1] at hK
  exact ⟨_,_,rfl,hK⟩
end
abbrev cB:Int:=10000000000000000000
section
variable {h g:Heap} {K:VP} {A B:Option Addr} {ac bc:Nat}
theorem B9c{Invv:LP}{muv:LN}{WA CA:Option Addr}{wn wc cn cc:Nat}{us:List Int}{hp1 g1:Heap}(p:Pw hp1 g1 WA wn wc us)(hne:us≠[])(hwn:wn=us.length)(du:Dig b64 us)(hl:wn<=100000000)
 (hK:∀ (ws:List Int) (m:Nat) (r:Int) (hp2:Heap),Pw hp2 g1 WA m wc (ws.take m)->m=(ws.take m).length->m<=wn->Norm (ws.take m)->Dig b64 (ws.take m)->val b64 us=val b64 (ws.take m)*cB+r->(0<=r/\r<cB)->
  wpH prog (Instr.buildSlice V3 1 #[(0,U r)]) (fun v hp6=>∃ (t44A:Option Addr) (t44n:Nat) (t44c:Nat),v= .slice t44A t44n t44c/\wpH prog (C4b #[V3,V3] V3 #[.slice CA cn cc,.slice t44A t44n t44c]) (fun v1 hp7=>∃ (t45A:Option Addr) (t45n:Nat) (t45c:Nat),v1= .slice t45A t45n t45c/\Invv [.slice WA m wc,.slice t45A t45n t45c] hp7/\muv [.slice WA m wc,.slice t45A t45n t45c] hp7<muv [.slice WA wn wc,.slice CA cn cc] hp1) hp6) hp2):
 Bo prog Invv muv WA wn wc CA cn cc hp1:=by
 obtain ⟨b,post,w0,hc⟩:=Dj p hne
 unfold Bo
 refine ⟨fun s hp=>∃ (k:Nat) (r:Int) (ws:List Int),s=[U r,I ((k:Int)-1)]/\k<=wn/\(0<=r/\r<cB)/\ws.length=us.length/\Dig b64 ws/\Win .u64 hp g1 b C1 WA [] ws post/\ws.take k=us.take k/\val b64 (us.drop k)=val b64 (ws.drop k)*cB+r,fun s _=>(iAt s 1+1).toNat,⟨wn,0,us,by rw [B7 (by omega) (by omega)],by omega,by decide,rfl,du,w0,rfl,by rw [C3j (by omega)];simp [val]⟩,?_⟩
 rintro rest i hp2 ⟨k,r,ws,hs,hk,hr,hwl,dw,w,htk,hv⟩
 obtain ⟨rfl,rfl⟩:rest=r/\i=(k:Int)-1:=by simpa using hs
 refine B6 (fun h1=>?_) (fun h1=>?_)
 ·obtain ⟨j,rfl⟩:∃ j,k=j+1:=⟨k-1,by omega⟩
  have e:((j+1:Nat):Int)-1=(j:Int):=by omega
  rw [e]
  have gx:=N0 dw j
  refine w.sl.load (by omega) (by omega) (by omega) ?_
  rw [C35]
  refine Qh (y:=10000000000000000000) hr gx (by decide) ⟨_,_,rfl,?_⟩
  have hu:us.getD j 0=ws.getD j 0:=by
   have h3:(ws.take (j+1)).getD j 0=(us.take (j+1)).getD j 0:=by rw [htk]
   simpa [C5e,List.getElem?_take] using h3.symm
  generalize hx:ws.getD j 0=x at *
  have hr':0<=rest/\rest<10000000000000000000:=hr
  have hT:0<=rest*18446744073709551616+x:=by omega
  have hq:0<=(rest*18446744073709551616+x)/10000000000000000000/\(rest*18446744073709551616+x)/10000000000000000000<18446744073709551616:=by omega
  obtain ⟨a,ha,_⟩:=SlV.at w.sl (i:=j) (by simp;omega)
  refine ⟨a,ha,by omega,by omega,w.storeN F2 ha (by omega) ?_⟩
  intro h4 w4
  rw [B7 (by omega) (by omega)]
  refine ⟨⟨j,_,_,rfl,by omega,by show _/\_<(10000000000000000000:Int);omega,by simpa using hwl,dw.set hq,w4,?_,?_⟩,by simp only [iAt,C3b,C3c];omega⟩
  ·rw [List.take_set_of_le (by omega)]
   have h3:=congrArg (List.take j) htk
   rw [List.take_take,List.take_take,C3i (by omega)] at h3
   exact h3
  ·rw [S9 (by omega),Jq b64 (by omega),hv,hu]
   have:=C3f (rest*18446744073709551616+x) 10000000000000000000
   simp only [val]
   generalize (rest*18446744073709551616+x)/10000000000000000000=q at *
   generalize (rest*18446744073709551616+x)%10000000000000000000=s at *
   grind
 ·obtain rfl:k=0:=by omega
  rw [C4q,C4q] at hv
  rw [show wn=ws.length by omega] at hK ⊢
  refine Cj w.sl (by omega) (by omega) ?_
  intro m hm hN hve
  refine ⟨_,_,_,rfl,?_⟩
  have hne2:ws≠[]:=by intro e0;apply hne;exact C37 (by rw [<- hwl,e0];rfl)
  exact hK ws m rest hp2 (w.priv hne2 (by omega) hm) (by rw [C3d];omega) hm hN (dw.take m) (by rw [hve];exact hv) hr
end
def nv:List Nat->Nat
 | []=>0
 | c::r=>c+10^19*nv r
theorem A8d(ns:List Nat)(c:Nat):((nv (ns++[c]):Nat):Int)=(nv ns:Int)+cB^ns.length*(c:Int):=by
 induction ns with
 | nil=>simp [nv]
 | cons d r ih=>
  have e:((10^19:Nat):Int)=cB:=by decide
  simp only [List.cons_append,nv,List.length_cons,C3s,C5n,C3t,ih,e]
  grind
theorem C12{ns:List Nat}(h:∀ c∈ns,c<10^19):nv ns<10^(19*ns.length):=by
 induction ns with
 | nil=>simp [nv]
 | cons d r ih=>
  have h1:=h d (by simp)
  have h2:=ih fun c hc=>h c (by simp [hc])
  simp only [nv,List.length_cons]
  rw [show 19*(r.length+1)=19+19*r.length by omega,C5b]
  have:=Nat.mul_le_mul_left (10^19) (show nv r+1<=10^(19*r.length) by omega)
  rw [Nat.mul_add] at this;omega
theorem C11{ns:List Nat}(hne:ns≠[])(h:ns.getLast? ≠ some 0):nv ns≠0:=by
 induction ns with
 | nil=>exact absurd rfl hne
 | cons d r ih=>
  cases r with
  | nil=>simp at h;simp [nv];exact h
  | cons e s=>
   have:=ih (by simp) (by simpa [List.getLast?_cons_cons] using h)
   simp only [nv] at this ⊢
   have h3:0<10^19*(e+10^19*nv s):=Nat.mul_pos (by decide) (by omega)
   omega
theorem B2l{c:Nat}:C34 (19-(L9 c).length) 48++L9 c=pad 19 c:=by
 unfold L9 pad
 split
 ·rename_i h;subst h;rw [J2];rfl
 ·rfl
theorem A87{c w:Nat}(h:c≠0):C34 (w-(L9 c).length) 48++L9 c=pad w c:=by
 unfold L9 pad;rw [if_neg h]
theorem A5s{w n k:Nat}(h:n<10^k):(pad w n).length<=w+k:=by
 unfold pad
 have:=P7.2 h
 rw [C36,C3r];omega
def A71(W:Nat)(ns:List Nat)(k:Nat):List UInt8:=if k<ns.length then pad (W-19*k) (nv (ns.drop k)) else []
theorem B20{W:Nat}{ns:List Nat}(h:∀ c∈ns,c<10^19)(k:Nat):(A71 W ns k).length<=W+19*ns.length:=by
 unfold A71
 split
 ·have:=A5s (w:=W-19*k) (C12 (ns:=ns.drop k) fun c hc=>h c (List.mem_of_mem_drop hc))
  rw [C3k] at this;omega
 ·simp
theorem A7i{W:Nat}{ns:List Nat}(hb:∀ c∈ns,c<10^19)(ht:ns.getLast? ≠ some 0){j:Nat}(hj:j<ns.length):A71 W ns j=A71 W ns (j+1)++(C34 ((if j+1=ns.length then max (L9 ns[j]).length (W-19*j) else 19)-(L9 ns[j]).length) 48++L9 ns[j]):=by
 have e:ns.drop j=ns[j]::ns.drop (j+1):=C4r hj
 unfold A71
 rw [if_pos hj,e]
 by_cases h:j+1=ns.length
 ·rw [if_neg (by omega),if_pos h,C4j,C3j (by omega)]
  have hc:ns[j]≠0:=by
   intro h0
   apply ht
   rw [C5r,<- h,Nat.add_sub_cancel,List.getElem?_eq_getElem hj,h0]
  rw [show max (L9 ns[j]).length (W-19*j)-(L9 ns[j]).length=(W-19*j)-(L9 ns[j]).length by omega,A87 hc]
  simp [nv]
 ·rw [if_pos (by omega),if_neg h,B2l]
  have hn:nv (ns.drop (j+1))≠0:=by
   apply C11
   ·intro e0;have:=congrArg List.length e0;rw [C3k] at this;simp at this;omega
   ·rw [List.getLast?_drop,if_neg (by omega)];exact ht
  have:=A09 (w:=W-19*j) (h:=nv (ns.drop (j+1))) (l:=ns[j]) (k:=19) (hb _ (C5j hj)) (.inl hn)
  rw [Nat.sub_sub] at this
  rw [show 19*(j+1)=19*j+19 by omega,<- this]
  congr 1
  simp only [nv];rw [C50];omega
theorem Priv.clear{h g:Heap}{e:TypeId}{A:Option Addr}{n c:Nat}{xs:List Value}(p:Priv h g e 1 A n c xs):Priv h g e 1 A 0 c []:=by
 obtain ⟨h1,h2,h3⟩:=p
 refine ⟨by simp,by omega,?_⟩
 rcases h3 with h3|⟨b,arr,a1,a2,a3,a4,a5⟩
 ·exact .inl h3
 ·exact .inr ⟨b,arr,a1,a2,a3,a4,by simp⟩
def nz(ns:List Nat):List Int:=ns.map fun (x:Nat)=>(x:Int)
def Bx(g:Heap)(eT:TypeId)(A:Option Addr)(n c:Nat)(l:List UInt8)(p:Addr)(CA:Option Addr)(ns:List Nat)(bl t:List UInt8)(tA:Option Addr)(tn tc:Nat)(hp:Heap):Prop:=
 ∃ e2 gA gB,Ext g eT A n c l t tA tn tc e2 gA hp/\Priv gA gB A7d 1 (some p) bl.length 20 (yv bl)/\g.le gB/\SlI .u64 gB CA (nz ns)
section
variable {h g:Heap} {K:VP} {A CA:Option Addr} {n c:Nat} {eT:TypeId} {l:List UInt8} {p:Addr} {ns:List Nat}
theorem A3t{bl t s:List UInt8}{tA tA':Option Addr}{tn tc tn' tc':Nat}{e2 e3:TypeId}{gA gB g' hp hp':Heap}(x:Ext g eT A n c l t tA tn tc e2 gA hp)(q:Priv gA gB A7d 1 (some p) bl.length 20 (yv bl))(lg:g.le gB)(sc:SlI .u64 gB CA (nz ns))(y:Ext gA e2 tA tn tc (l++t) s tA' tn' tc' e3 g' hp'):Bx g eT A n c l p CA ns bl (t++s) tA' tn' tc' hp':=by
 obtain ⟨gB',l1,q'⟩:=q.after y.le
 exact ⟨e3,g',gB',x.trans y,q',B0 lg l1,sc.mono l1⟩
theorem B38{Invv2:LP}{muv2:LN}{tA:Option Addr}{tn tc q:Nat}{first:Bool}{i1 size:Int}{bl t:List UInt8}{hp9 hp11:Heap}(x:Bx g eT A n c l p CA ns bl t tA tn tc hp11)(hq:B5 (size-((bl.length:Nat):Int))=(q:Int))(hb:n+t.length+q+bl.length<=100000000000)
 (hK:∀ tA' tn' tc' hp',Bx g eT A n c l p CA ns bl (t++(C34 q 48++bl)) tA' tn' tc' hp'->Invv2 [.slice tA' tn' tc',.bool false,I (B5 (i1-1))] hp'/\muv2 [.slice tA' tn' tc',.bool false,I (B5 (i1-1))] hp'<muv2 [.slice tA tn tc,.bool first,I i1] hp9):
 Z8 prog Invv2 muv2 tA tn tc first i1 (some p) bl.length 20 size hp9 hp11:=by
 unfold Z8
 rw [hq]
 refine ⟨fun s hp=>∃ (k:Nat) (tA:Option Addr) (tn tc:Nat),s=[.slice tA tn tc,I k]/\k<=q/\Bx g eT A n c l p CA ns bl (t++C34 k 48) tA tn tc hp,fun s _=>q-(iAt s 1).toNat,⟨0,tA,tn,tc,rfl,by omega,by simpa using x⟩,?_⟩
 rintro tA1 tn1 tc1 t71 hp12 ⟨k,tA2,tn2,tc2,hs,hk,e2,gA,gB,ex,pb,lg,sc⟩
 simp only [C3g,C3l,C3p,and_true,true_and] at hs
 obtain ⟨⟨rfl,rfl,rfl⟩,rfl⟩:=hs
 have hlen:=ex.len
 rw [C36,C3r] at hlen
 refine B6 (fun h1=>?_) (fun h1=>?_)
 ·refine Kg (ch:=48) rfl ex.priv (by omega) ?_
  intro A' n' c' e3 g' h' y
  rw [B7 (by omega) (by omega)]
  refine ⟨⟨k+1,_,_,_,rfl,by omega,?_⟩,by simp only [iAt,C3b,C3c];omega⟩
  have:=A3t ex pb lg sc y
  rwa [C3h,<- C4g] at this
 ·obtain rfl:k=q:=by omega
  refine ⟨fun s hp=>∃ (tA:Option Addr) (tn tc:Nat),s=[.slice tA tn tc]/\Bx g eT A n c l p CA ns bl (t++(C34 k 48++bl)) tA tn tc hp,?_,?_⟩
  ·refine Sn Et ex.priv (Fi bl) (SlV.mono ex.priv.le pb.slV) (Wx _) (by omega) (by omega) ?_ ?_
   ·intro hf h' p'
    rw [<- R9] at p'
    refine ⟨_,_,_,rfl,_,_,_,rfl,?_⟩
    have:=A3t ex pb lg sc (s:=bl) ⟨B4 _,p',rfl,fun _=>⟨rfl,rfl,rfl⟩,id⟩
    rwa [C3h] at this
   ·intro hf A' c' h' g' lg' p'
    rw [<- R9] at p'
    refine ⟨_,_,_,rfl,_,_,_,rfl,?_⟩
    have:=A3t ex pb lg sc (s:=bl) ⟨lg',p',rfl,fun e=>by omega,fun _=>rfl⟩
    rwa [C3h] at this
  ·rintro tA3 tn3 tc3 hp16 ⟨tA4,tn4,tc4,hs,x4⟩
   simp only [C3g,C3l,and_true] at hs
   obtain ⟨rfl,rfl,rfl⟩:=hs
   exact hK _ _ _ _ x4
theorem B36{W tn tc:Nat}{tA:Option Addr}{t:List UInt8}{e2:TypeId}{gA hp9:Heap}(x:Ext g eT A n c l t tA tn tc e2 gA hp9)(hW:W<=10000000000)(hb:tn<=10000000000)(hK:∀ A' n' c' e3 g' h',Ext g eT A n c l (t++C34 W 48) A' n' c' e3 g' h'->K (.slice A' n' c') h'):Z7 prog (W:Int) K tA tn tc hp9:=by
 unfold Z7
 refine ⟨fun s hp=>∃ (k:Nat) (tA:Option Addr) (tn' tc:Nat) (e3:TypeId) (g':Heap),s=[.slice tA tn' tc,I k]/\k<=W/\tn'=tn+k/\Ext g eT A n c l (t++C34 k 48) tA tn' tc e3 g' hp,fun s _=>W-(iAt s 1).toNat,⟨0,tA,tn,tc,e2,gA,rfl,by omega,rfl,by simpa using x⟩,?_⟩
 rintro tA1 tn1 tc1 t82 hp17 ⟨k,tA2,tn2,tc2,e3,g',hs,hk,htn,ex⟩
 simp only [C3g,C3l,C3p,and_true,true_and] at hs
 obtain ⟨⟨rfl,rfl,rfl⟩,rfl⟩:=hs
 refine B6 (fun h1=>?_) (fun h1=>?_)
 ·refine Kg (ch:=48) rfl ex.priv (by omega) ?_
  intro A' n' c' e4 g2 h' y
  rw [B7 (by omega) (by omega)]
  refine ⟨⟨k+1,_,_,_,e4,g2,rfl,by omega,?_,?_⟩,by simp only [iAt,C3b,C3c];omega⟩
  ·have:=y.len;simp at this;omega
  ·have:=ex.trans y
   rwa [C3h,<- C4g] at this
 ·obtain rfl:k=W:=by omega
  exact hK _ _ _ _ _ _ ex
theorem B37{W cn:Nat}{tA:Option Addr}{tn tc:Nat}{hp8:Heap}{b:Nat}(gp:Gp g)(hp:p=⟨b,0,none⟩)(x:Bx g eT A n c l p CA ns [] [] tA tn tc hp8)(hcn:cn=ns.length)(hb:∀ c∈ns,c<10^19)(ht:ns.getLast? ≠ some 0)(hW:W<=1000000000)(hn:n<=1000000000)(hnl:ns.length<=1000000000)
 (hK:∀ A' n' c' e3 g' h',Ext g eT A n c l (pad W (nv ns)) A' n' c' e3 g' h'->K (.slice A' n' c') h'):Z9 prog tA tn tc (W:Int) K CA cn p hp8:=by
 subst hcn
 have hcut:K0 (some p) 20 0 1=some p:=by rw [hp];rfl
 unfold Z9
 refine ⟨fun s hp=>∃ (k:Nat) (tA:Option Addr) (tn tc:Nat) (bl:List UInt8),s=[.slice tA tn tc,.bool (decide (k=ns.length)),I ((k:Int)-1)]/\k<=ns.length/\Bx g eT A n c l p CA ns bl (A71 W ns k) tA tn tc hp,fun s _=>(iAt s 2+1).toNat,⟨ns.length,tA,tn,tc,[],by rw [B7 (by omega) (by omega)];simp,C4d _,by unfold A71;rw [if_neg (by omega)];exact x⟩,?_⟩
 rintro tA1 tn1 tc1 first i1 hp9 ⟨k,tA2,tn2,tc2,bl,hs,hk,e2,gA,gB,ex,pb,lg,sc⟩
 simp only [C3g,C3l,C3p,Value.bool.injEq,and_true,true_and] at hs
 obtain ⟨⟨rfl,rfl,rfl⟩,rfl,rfl⟩:=hs
 have hlen:=ex.len
 have htl:=B20 (W:=W) hb k
 refine B6 (fun h1=>?_) (fun h1=>?_)
 ·obtain ⟨j,rfl⟩:∃ j,k=j+1:=⟨k-1,by omega⟩
  have e:((j+1:Nat):Int)-1=(j:Int):=by omega
  rw [e]
  have hj:j<ns.length:=by omega
  refine ⟨⟨by omega,by omega⟩,?_⟩
  refine (sc.mono (B0 pb.le ex.priv.le)).load (by simp [nz]) (by omega) (by simp;omega) ?_
  have hz:(nz ns).getD (j:Int).toNat 0=((ns[j]:Nat):Int):=by
   rw [C35];simp [nz,C5e,hj]
  rw [hz,hcut,show ((0:Int)).toNat-0=0 from rfl,show 20-0=20 from rfl]
  have hc19:=hb ns[j] (C5j hj)
  have hdl:(L9 ns[j]).length<=20:=(Qi (by decide)).2 (C4m hc19 (by decide))
  refine ex.priv.call ?_
  refine Ew (l:=[]) (gp.mono (B0 lg pb.le)) pb.clear (C4m hc19 (by decide)) (by omega) ?_
  intro A' n' c' e3 g' h0 y h' pt
  obtain ⟨rfl,rfl,rfl⟩:=y.fit (by omega)
  have yl:=y.len
  rw [C4z] at yl
  subst yl
  refine ⟨_,_,_,rfl,?_⟩
  have x2:Bx g eT A n c l p CA ns (L9 ns[j]) (A71 W ns (j+1)) tA1 tn1 tc1 h':=
   ⟨e2,h0,g',⟨B0 lg (B0 y.le y.priv.le),pt,ex.len,ex.fit,ex.tag⟩,by simpa using y.priv,B0 lg y.le,sc.mono y.le⟩
  refine ⟨fun s hp=>s=[I (((if j+1=ns.length then max (L9 ns[j]).length (W-19*j) else 19):Nat):Int)]/\hp=h',B6 (fun hf=>⟨?_,rfl⟩) (fun hf=>⟨by rw [if_neg hf];rfl,rfl⟩),?_⟩
  ·rw [if_pos hf,B7 (n:=19*(j:Int)) (by omega) (by omega),B7 (by omega) (by omega)]
   simp only [C3g,C3p,and_true,true_and]
   by_cases hc:(W:Int)-19*(j:Int)>(((L9 ns[j]).length:Nat):Int)
   ·rw [if_pos hc];omega
   ·rw [if_neg hc];omega
  ·rintro size hp11 ⟨hs2,rfl⟩
   obtain rfl:size=(((if j+1=ns.length then max (L9 ns[j]).length (W-19*j) else 19):Nat):Int):=by simpa using hs2
   have hd19:(L9 ns[j]).length<=19:=(Qi (by decide)).2 hc19
   generalize hsz:(if j+1=ns.length then max (L9 ns[j]).length (W-19*j) else 19)=sz at *
   have hsz2:(L9 ns[j]).length<=sz/\sz<=W+20:=by
    rw [<- hsz];split<;>omega
   refine B38 (q:=sz-(L9 ns[j]).length) x2 (by rw [B7 (by omega) (by omega)];omega) (by have:=ex.len;omega) ?_
   intro tA' tn' tc' hp' x3
   rw [B7 (by omega) (by omega)]
   refine ⟨⟨j,tA',tn',tc',L9 ns[j],?_,by omega,?_⟩,by simp only [iAt,C3b,C3c];omega⟩
   ·rw [show decide (j=ns.length)=false by simp;omega]
   ·rw [A7i hb ht hj,hsz];exact x3
 ·obtain rfl:k=0:=by omega
  refine B6 (fun hf=>?_) (fun hf=>?_)
  ·have hns:ns=[]:=C37 hf.symm
   subst hns
   refine B36 ex (by omega) (by omega) ?_
   intro A' n' c' e3 g' h' y
   refine hK _ _ _ e3 g' _ ?_
   have:A71 W [] 0++C34 W 48=pad W (nv []):=by simp [A71,nv,pad,J2]
   rwa [this] at y
  ·refine hK _ _ _ e2 gA _ ?_
   ·have:A71 W ns 0=pad W (nv ns):=by unfold A71;rw [if_pos (by omega)];simp
    rw [<- this];exact ex
end
theorem B3b:(prog.info? A7d).map (fun i=>i.zero)=some (some (.agg (C4c 20 (.int .u8 0)))):=by kernel_rfl
theorem B6e(ns:List Nat)(c:Nat):nz (ns++[c])=nz ns++[(c:Int)]:=by simp [nz]
section
variable {h g:Heap} {K:VP} {A XA:Option Addr} {n c:Nat} {eT:TypeId} {l:List UInt8}
theorem Dc{xn xc v W:Nat}(gp:Gp g)(p:Priv h g eT 1 A n c (yv l))(M:Mw g XA xn (v:Int))(hx:xn<=10000000)(hW:W<=1000000000)(hn:n<=1000000000)
 (hK:∀ A' n' c' e3 g' h',Ext g eT A n c l (pad W v) A' n' c' e3 g' h'->K (.slice A' n' c') h'):FCall prog S6 #[.slice A n c,.slice XA xn xc,I (W:Int)] h K:=by
 obtain ⟨xs,hxl,sx,dx,nx,hxv⟩:=M
 refine Ps _ _ _ _ _ _ _ ?_
 unfold Lz
 refine p.call ?_
 refine Cz sx hxl (by omega) ?_
 intro WA wc h0 g0 l0 pw h1 pt
 obtain ⟨g1,pw1,pt1⟩:=pt.swap pw
 refine ⟨_,_,_,rfl,?_⟩
 unfold Ha
 have hvlt:(v:Int)<2^(64*xn):=by
  have:=K6 (B:=b64) (by decide) dx
  rw [hxv,<- hxl,Is] at this;exact this
 refine ⟨fun s hp=>∃ (us:List Int) (ns:List Nat) (WA CA:Option Addr) (wn wc cn cc:Nat) (g1 g2 g3:Heap),s=[.slice WA wn wc,.slice CA cn cc]/\Pw hp g1 WA wn wc us/\Pw g1 g2 CA cn cc (nz ns)/\Priv g2 g3 eT 1 A n c (yv l)/\g.le g3/\wn=us.length/\cn=ns.length/\wn<=xn/\Dig b64 us/\Norm us/\(∀ c∈ns,c<10^19)/\(v:Int)=val b64 us*cB^ns.length+(nv ns:Int)/\(us=[]->ns.getLast? ≠ some 0),fun s hp=>match s with|[.slice A n _,_]=>A8g b64 hp A n|_=>0,⟨xs,[],WA,none,xs.length,wc,0,0,g1,g1,g0,rfl,pw1,Priv.nil _ _ _ _,pt1,l0,rfl,rfl,by omega,dx,nx,by simp,by simp [nv,hxv],by simp⟩,?_⟩
 rintro WA1 wn1 wc1 CA1 cn1 cc1 hp1 ⟨us,ns,WA2,CA2,wn2,wc2,cn2,cc2,g1,g2,g3,hs,pw,pc,pt,lg,hwn,hcn,hwx,du,nu,hb,hv,htop⟩
 simp only [C3g,C3l,and_true] at hs
 obtain ⟨⟨rfl,rfl,rfl⟩,rfl,rfl,rfl⟩:=hs
 have hu0:=C7 (B:=b64) (by decide) du
 have Mu:Mw hp1 WA1 wn1 (val b64 us):=⟨us,hwn,pw.slV,du,nu,rfl⟩
 refine B6 (fun h2=>?_) (fun h2=>?_)
 ·have hne:us≠[]:=by rintro rfl;simp at hwn;omega
  have hpos:0<val b64 us:=by
   have:=Mu.len_zero (by decide)
   omega
  have hcnb:ns.length<=64*xn:=by
   by_cases hc:ns.length<=64*xn
   ·exact hc
   ·exfalso
    have h3:(2:Int)^(64*xn)<=2^ns.length:=D0 (by decide) (by omega)
    have h4:(2:Int)^ns.length<=cB^ns.length:=by
     have:∀ k:Nat,(2:Int)^k<=cB^k:=by
      intro k
      induction k with
      | zero=>simp
      | succ k ih=>
       rw [C3s,C3s]
       exact Int.mul_le_mul ih (by decide) (by decide) (C3n (C42 (by decide)))
     exact this _
    have h5:1*cB^ns.length<=val b64 us*cB^ns.length:=C3a hpos (C3n (C42 (by decide)))
    omega
  refine B9c pw hne hwn du (by omega) ?_
  intro ws m r hp2 pw2 hm hmw nw dw hval hr
  obtain ⟨g1',pc',pw'⟩:=pw2.swap pc
  refine Cb O6 pc' rfl rfl (by omega) (by omega) ?_
  intro CA' cc' h' g' lg' pc2
  obtain ⟨g2',l2,pw3⟩:=pw'.after lg'
  obtain ⟨g4,pw4,pc4⟩:=pc2.swap pw3
  obtain ⟨g5,l5,pt5⟩:=pt.after l2
  obtain ⟨c0,hc0⟩:∃ c0:Nat,r=(c0:Int):=⟨r.toNat,by omega⟩
  have hc19:c0<10^19:=by
   have h6:r<10000000000000000000:=hr.2
   show c0<10000000000000000000
   omega
  have hw0:=C7 (B:=b64) (by decide) dw
  refine ⟨⟨ws.take m,ns++[c0],WA1,CA',m,wc1,cn1+1,cc',g4,g2',g5,rfl,pw4,?_,pt5,B0 lg l5,hm,by simp;omega,by omega,dw,nw,?_,?_,?_⟩,?_⟩
  ·have h9:=pc4
   rw [<- C5d (f:=C3q .u64),<- C55,hc0,<- B6e] at h9
   exact h9
  ·intro c hc
   rcases List.mem_append.1 hc with h6|h6
   ·exact hb c h6
   ·rw [List.mem_singleton.1 h6];exact hc19
  ·rw [A8d,hv,hval,C36,List.length_singleton,C3s,hc0];grind
  ·intro he
   rw [List.getLast?_append]
   simp only [List.getLast?_singleton,Option.some_or,ne_eq,C5h]
   intro e0
   rw [he] at hval
   simp [val] at hval
   omega
  ·show A8g b64 h' WA1 m<A8g b64 hp1 WA1 wn1
   have Mw2:Mw h' WA1 m (val b64 (ws.take m)):=⟨ws.take m,hm,pw4.slV,dw,nw,rfl⟩
   rw [Y6 Mw2,Y6 Mu]
   have h6:1*val b64 (ws.take m)<=cB*val b64 (ws.take m):=C3a (by decide) hw0
   have h7:val b64 us=10000000000000000000*val b64 (ws.take m)+r:=by rw [hval,C3m]
   omega
 ·have hnil:us=[]:=C37 (by omega)
  subst hnil
  obtain ⟨g2',pt2,pc2⟩:=pc.swap pt
  obtain ⟨g1',pt3,pw3⟩:=pw.swap pt2
  have hvn:v=nv ns:=by
   simp [val] at hv;omega
  have hcnb:ns.length<=1000000000:=by
   by_cases hc0:ns=[]
   ·subst hc0;simp
   ·have h7:=htop rfl
    obtain ⟨ms,c0,rfl⟩:∃ ms c0,ns=ms++[c0]:=⟨ns.dropLast,ns.getLast hc0,(List.dropLast_concat_getLast hc0).symm⟩
    rw [List.getLast?_append] at h7
    simp only [List.getLast?_singleton,Option.some_or,ne_eq,C5h] at h7
    have h8:=A8d ms c0
    by_cases hc:ms.length<=64*xn
    ·simp;omega
    ·exfalso
     have h3:(2:Int)^(64*xn)<=2^ms.length:=D0 (by decide) (by omega)
     have h4:(2:Int)^ms.length<=cB^ms.length:=by
      have:∀ k:Nat,(2:Int)^k<=cB^k:=by
       intro k
       induction k with
       | zero=>simp
       | succ k ih=>
        rw [C3s,C3s]
        exact Int.mul_le_mul ih (by decide) (by decide) (C3n (C42 (by decide)))
      exact this _
     have h5:cB^ms.length*1<=cB^ms.length*(c0:Int):=C38 (by omega) (C3n (C42 (by decide)))
     omega
  refine Eo B3b ?_
  intro b hb0
  refine ⟨_,rfl,?_⟩
  have hz:(Value.agg (C4c 20 (.int .u8 0))).cells=(C34 20 (C3q .u8 0)).toArray:=by rfl
  rw [hz]
  have hg1:g1' b=none:=by
   cases hx1:g1' b with
   | none=>rfl
   | some o=>rw [pt3.le b o hx1] at hb0;cases hb0
  refine B37 (ns:=ns) gp rfl ⟨eT,_,g1',⟨?_,?_,by simp,fun _=>⟨rfl,rfl,rfl⟩,id⟩,⟨by simp [yv],by simp,.inr ⟨b,C34 20 (C3q .u8 0),rfl,hg1,rfl,by simp,by simp [yv]⟩⟩,?_,?_⟩ hcn hb (htop rfl) hW hn hcnb (by rw [<- hvn];exact hK)
  ·exact B0 lg (B0 pc2.le (B0 pw3.le (Heap.le_put _ hg1)))
  ·rw [C3w];exact pt3.put hb0 _
  ·exact B0 lg (B0 pc2.le pw3.le)
  ·exact (show SlI .u64 g2' CA1 (nz ns) from pc2.slV).mono pw3.le
end
end Go.Proofs.YtajkakhfcokljaaGreatDoor
