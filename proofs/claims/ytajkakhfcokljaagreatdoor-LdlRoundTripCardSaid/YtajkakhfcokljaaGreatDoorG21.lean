/-
  Texts of this proof, merged by a program of ours.
-/
import Derived.Test.YtajkakhfcokljaaGreatDoorG20
import Derived.Test.YtajkakhfcokljaaGreatDoorG08
import Derived.Test.YtajkakhfcokljaaGreatDoorG10
open Go.Proofs.Tryz
open _root_.Array renaming replicate->C6y
open Bool renaming false_eq_true->C7a
open _root_.Go.Builtin renaming zeroCells->C6p,append_->C6x
open _root_.ByteArray renaming size->C7e
open Int renaming toNat_natCast->C5r,mul_le_mul_of_nonneg_left->C5u,mul_le_mul_of_nonneg_right->C5w,emod_lt_of_pos->C60,mul_ediv_add_emod->C61,mul_comm->C68,le_of_lt->C69,emod_nonneg->C6a,pow_succ->C6e,natCast_mul->C6f,mul_nonneg->C6g,pow_add->C6j,mul_lt_mul_of_pos_right->C6k,ediv_lt_of_lt_mul->C6l,ofNat_tdiv->C6m,pow_pos->C6o,ofNat_tmod->C6r,gcd_natCast_natCast->C6v,eq_ofNat_of_zero_le->C6w,mul_assoc->C73,tmod_eq_emod_of_nonneg->C76,tdiv_eq_ediv_of_nonneg->C77,tdiv->C79,mul_add->C7i,natCast_ediv->C7k,natCast_add->C7u,tmod->C7v,lt_of_le_of_lt->C82,fdiv->C83,natCast_emod->C88,gcd->C8a,ediv_nonneg->C8b,mul_lt_mul_of_pos_left->C8c
open List renaming replicate->C5q,length_append->C5s,eq_nil_of_length_eq_zero->C5t,take_of_length_le->C5v,getElem?_cons_zero->C5x,getElem?_cons_succ->C5y,length_take->C5z,append_assoc->C63,drop_of_length_le->C65,length_drop->C66,length_replicate->C6d,take_append_of_le_length->C6h,append_nil->C6i,take_replicate->C6s,drop_replicate->C6t,replicate_append_replicate->C70,take_append->C71,replicate_succ'->C72,nil_append->C75,drop_zero->C7c,drop_eq_getElem_cons->C7d,take_length->C7j,take_left'->C7p,take_append_drop->C7q,map_append->C7r,getElem?_toArray->C7s,getElem?_eq_none->C7t,mem_of_mem_take->C7x,map_singleton->C80,getD->C81,getElem_mem->C86,drop_append_of_le_length->C87,getLast?_eq_getElem?->C8d
open List.cons renaming injEq->C62
open Nat renaming min_eq_left->C64,mul_one->C6n,sub_zero->C6u,le_refl->C6z,pow_pos->C74,lt_of_lt_of_le->C78,gcd->C7b,one_mul->C7f,add_sub_cancel_left->C7g,add_mul->C7h,zero_add->C7l,mul_comm->C7m,le_trans->C7n,div_add_mod->C7o,pow_le_pow_right->C7w,pow_add->C7y,mul_assoc->C7z,min_eq_right->C85,div_le_self->C89
open Nat.Coprime renaming gcd_mul_left_cancel_right->C6q
open Option.some renaming injEq->C84
open _root_.Go.Value renaming int->C6c
open _root_.Go.Value.int renaming injEq->C6b
open _root_.Go.Value.slice renaming injEq->C67
namespace Go.Proofs.YtajkakhfcokljaaGreatDoor
set_option linter.all false
set_option maxRecDepth 20000
open Go
theorem A4v{x a b p:Int}(h:a+p*b=x)(h0:0<=a)(h1:a<p):x/p=b/\x%p=a:=(Int.ediv_emod_unique (by omega)).2 ⟨h,h0,h1⟩
theorem Vu{P:Program}{h:Heap}{A:Option Addr}{n m c s:Nat}{cs:List Value}(hl:cs.length=n*s)(hc:cs=[]\/∃ a,A=some a/\∀ j v,cs[j]? = some v->h.cell? (a.add j)=some v){K:Array Value->Heap->Prop}(x:K cs.toArray h):
 wpH P (Builtin.firstCells s n (.slice A m c)) K h:=by
 cases A with
 | none=>
  rcases hc with rfl|⟨a,e,_⟩
  ·exact x
  ·cases e
 | some a=>
  show wpH P (loadCells a (n*s)) K h
  rcases hc with rfl|⟨a',e,hc⟩
  ·exact T8 (cs:=[]) hl.symm (fun j v e=>by simp at e) x
  ·cases e
   exact T8 hl.symm hc x
theorem B5i{P:Program}{t e ty:TypeId}{k:IntKind}{bytes:Nat}(s:SliceT P t e (.int k 0) 1 bytes){h g:Heap}{b:Nat}{A:Option Addr}{pre post:List Value}{xs:List Int}{n c m d:Nat}(w:Win k h g b e A pre xs post)(hn:n=xs.length){B:Option Addr}{ys:List Int}(sy:SlI k h B ys)(hm:min m xs.length=ys.length){K:VP}
 (x:∀ h',Win k h' g b e A pre (ys++xs.drop ys.length) post->K (I ys.length) h'):wpH P (Builtin.copy_ #[t,t] ty #[.slice A n c,.slice B m d]) K h:=by
 subst hn
 have hle:ys.length<=xs.length:=by omega
 obtain ⟨i,hi,hz,hsz,hby⟩:=s.parts
 unfold Builtin.copy_
 simp only [C7s,C5x,C5y,C6,F0 s.und,L3 hi,G1,Builtin.lenOf,hsz]
 have hmin:Nat.min m xs.length=ys.length:=hm
 rw [hmin]
 refine Vu (s:=1) (cs:=ys.map (C6c k)) (by simp) sy ?_
 cases A with
 | none=>
  rcases w.at_ with h0|h0
  ·subst h0
   have:ys=[]:=C5t (by simpa using hle)
   subst this
   exact x h (by simpa using w)
  ·cases h0
 | some a=>
  simp only [C6]
  rcases w.at_ with h0|h0
  ·subst h0
   have:ys=[]:=C5t (by simpa using hle)
   subst this
   exact x h (by simpa using w)
  ·cases h0
   rw [w.eq]
   refine J0 (ys.map (C6c k)) pre.length 0 (pre++xs.map (C6c k)++post) (by simp;omega) (fun v hv=>?_) ?_
   ·obtain ⟨u,_,rfl⟩:=List.mem_map.1 hv;rfl
   ·refine x _ ⟨w.free,?_,?_⟩
    ·congr 3
     unfold K5
     rw [Nat.add_zero,C63 pre,C7p rfl,List.length_map]
     rw [List.drop_append,C65 (show pre.length<=pre.length+ys.length by omega),C7g,C75]
     rw [C87 (by simpa using hle),<- List.map_drop,C7r]
     simp only [C63]
    ·right;rfl
section
variable {h g:Heap} {K:VP} {A B:Option Addr} {ac bc:Nat}
theorem B6s(a n:Nat):(if (a:Int)<(n:Int) then (a:Int) else (n:Int))=((min n a:Nat):Int):=by split<;>omega
theorem Lh{xs:List Int}(d:Dig b64 xs)(n:Nat):val b64 xs/b64^n=val b64 (xs.drop (min n xs.length))/\val b64 xs%b64^n=val b64 (xs.take (min n xs.length)):=by
 by_cases hn:n<=xs.length
 ·rw [C64 hn]
  have h1:=F6 b64 xs hn
  have h2:=C8 (by decide) (d.take n)
  have h3:=L6 (by decide) (d.take n)
  rw [C5z,C64 hn] at h3
  exact A4v h1.symm h2 h3
 ·rw [C85 (by omega),List.drop_length,C7j]
  have h2:=C8 (by decide) d
  have h3:=L6 (by decide) d
  have h4:=D3 (B:=b64) (by decide) (show xs.length<=n by omega)
  exact A4v (by simp [val]) h2 (by omega)
theorem Z2{x:Int}{an n:Nat}(ma:Mw h A an x)(ha:an<=ac)(hK:∀ A' m c',m<=c'->m<=an->Mw h A' m (x/b64^n)->K (.slice A' m c') h):FCall prog T4 #[.slice A an ac,I n] h K:=by
 obtain ⟨xs,rfl,sx,dx,nx,rfl⟩:=ma
 refine A0k _ _ _ _ ?_
 unfold Xn
 rw [B6s,C5r]
 refine ⟨⟨by omega,by omega⟩,hK _ _ _ (by omega) (by omega) ?_⟩
 rw [(Lh dx n).1,<- C66]
 refine Mw.of (A0c sx (by omega) ha) (dx.drop _) ?_
 by_cases hk:min n xs.length<xs.length
 ·exact Me nx hk
 ·rw [C65 (by omega)];exact Norm.nil
theorem Fl{x:Int}{an n:Nat}(ma:Mw h A an x)(ha:an<=ac)(hl:an<=10000000000)(hK:∀ A' m c',m<=c'->m<=n->m<=an->Mw h A' m (x%b64^n)->K (.slice A' m c') h):FCall prog Cl #[.slice A an ac,I n] h K:=by
 obtain ⟨xs,rfl,sx,dx,nx,rfl⟩:=ma
 refine A2s _ _ _ _ ?_
 unfold A2t
 rw [B6s,C5r,I3,C6u,C6u]
 refine ⟨⟨by omega,by omega⟩,Bh (Jn sx (m:=min n xs.length) (by omega) ha) (dx.take _) (by rw [C5z];omega) (Lh dx n).2.symm (by omega) (by omega) ?_⟩
 intro m hm M
 exact ⟨_,_,_,rfl,hK _ _ _ (by omega) (by omega) (by omega) M⟩
theorem Hl{x y:Int}{an bn n:Nat}(ma:Mw h A an x)(mb:Mw h B bn y)(hbn:bn<=n)(hl:n+an<=5000000000)(hK:∀ A' m c' h',h.le h'->m<=c'->Mw h' A' m (x*b64^n+y)->K (.slice A' m c') h'):FCall prog Kt #[.slice A an ac,.slice B bn bc,I n] h K:=by
 obtain ⟨xs,rfl,sx,dx,nx,rfl⟩:=ma
 obtain ⟨ys,rfl,sy,dy,ny,rfl⟩:=mb
 refine B5w _ _ _ _ _ _ _ ?_
 unfold C28
 have e1:B5 ((n:Int)+xs.length)=((n+xs.length:Nat):Int):=by rw [B7 (by omega) (by omega)];omega
 rw [e1]
 refine J9 P6 (by omega) (by omega) (by omega) ?_
 intro b hb
 rw [C5r]
 refine ⟨_,_,_,rfl,?_⟩
 have w0:=Win.blk .u64 C1 hb (C5q (n+xs.length) 0)
 refine Gg P6 w0 (by simp) (sy.mono w0.le) rfl (by simp;omega) ?_
 intro h1 w1
 refine ⟨_,rfl,⟨by omega,by omega⟩,?_⟩
 rw [C6t] at w1
 generalize hz:ys++C5q (n+xs.length-ys.length) (0:Int)=zs at w1
 have hzl:zs.length=n+xs.length:=by rw [<- hz];simp;omega
 have w2:=w1.sub (l:=n) (m:=n+xs.length) (c:=n+xs.length) (by omega) (by omega) (by omega)
 rw [C5r]
 refine Gg P6 w2 (by rw [C5z,C66];omega) (sx.mono w1.le) rfl (by rw [C5z,C66];omega) ?_
 intro h2 w3
 rw [C65 (by rw [C5z,C66];omega),C6i] at w3
 have w4:=w1.whole (l:=n) (m:=n+xs.length) (by omega) (by omega) (by omega) w3
 rw [C65 (show zs.length<=n+xs.length by omega),C6i] at w4
 have hzt:zs.take n=ys++C5q (n-ys.length) 0:=by
  rw [<- hz,C71,C5v (by omega),C6s]
  congr 2;omega
 rw [hzt] at w4
 refine ⟨_,rfl,Bh w4.sl ((dy.append (I4 (by decide) _)).append dx) (by simp;omega) rfl (by omega) (by omega) ?_⟩
 intro m hm M
 refine ⟨_,_,_,rfl,hK _ _ _ _ w4.le hm ?_⟩
 rw [G2,Cw] at M
 have e:(ys++C5q (n-ys.length) (0:Int)).length=n:=by simp;omega
 rw [e] at M
 have e2:val b64 xs*b64^n+val b64 ys=val b64 ys+b64^n*val b64 xs:=by rw [C68];omega
 rw [e2];exact M
theorem B9o{x y:Int}(hx:0<=x/\x<18446744073709551616)(hy:0<=y/\y<18446744073709551616)(hK:K (.tuple #[U (x*y/18446744073709551616),U (x*y%18446744073709551616)]) h):FCall prog B1e #[U x,U y] h K:=by
 refine C0f _ _ ?_
 unfold C5h
 exact Mi hx hy ⟨_,_,rfl,hK⟩
theorem A48{v:Int}{n:Nat}(s:SlI .u64 h A [v])(hn:0<n)(hl:n<=1000000000)(hK:∀ A' h',h.le h'->SlI .u64 h' A' (C5q n v)->K (.slice A' n n) h'):FCall prog To #[.slice A 1 ac,I n] h K:=by
 refine A8d _ _ _ _ ?_
 unfold B2j
 refine B6 (fun h1=>by omega) (fun _=>?_)
 rw [C2 (n:=((1:Nat):Int)) (by omega) (by omega),C2 (n:=(n:Int)) (by omega) (by omega)]
 refine B9o (by omega) (by omega) ⟨_,_,rfl,?_⟩
 have e1:((1:Nat):Int)*(n:Int)/18446744073709551616=0:=by omega
 have e2:((1:Nat):Int)*(n:Int)%18446744073709551616=n:=by omega
 rw [e1,e2]
 refine B6 (fun h1=>by omega) (fun _=>?_)
 refine B6 (fun h1=>by omega) (fun _=>?_)
 rw [B7 (n:=(n:Int)) (by omega) (by omega)]
 refine J9 P6 (by omega) (by omega) (by omega) ?_
 intro b hb
 rw [C5r]
 refine ⟨_,_,_,rfl,?_⟩
 have w0:=Win.blk .u64 C1 hb (C5q n 0)
 refine Gg P6 w0 (by simp) (s.mono w0.le) rfl (by simp;omega) ?_
 intro h1 w1
 refine ⟨_,rfl,?_⟩
 rw [C6t] at w1
 refine ⟨fun l hp=>∃ k:Nat,l=[I k]/\0<k/\k<=n/\Win .u64 hp h b C1 (some ⟨b,0,none⟩) [] (C5q k v++C5q (n-k) 0) [],fun l _=>n-(iAt l 0).toNat,⟨1,rfl,by omega,hn,w1⟩,?_⟩
 rintro i hp ⟨k,hli,hk0,hkn,w⟩
 obtain rfl:=sI1 hli
 refine B6 (fun h2=>?_) (fun h2=>?_)
 ·have hzl:(C5q k v++C5q (n-k) (0:Int)).length=n:=by simp;omega
  refine ⟨⟨by omega,by omega⟩,⟨by omega,by omega⟩,?_⟩
  simp only [C5r,I3,C6u]
  have w2:=w.sub (l:=k) (m:=n) (c:=n) (by omega) (by omega) (by omega)
  have e3:((C5q k v++C5q (n-k) (0:Int)).drop k).take (n-k)=C5q (n-k) 0:=by
   rw [List.drop_left' (by simp),C5v (by simp)]
  rw [e3] at w2
  have s2:SlI .u64 hp (some ⟨b,0,none⟩) (C5q (min k (n-k)) v):=by
   have:=Jn w.sl (c:=n) (m:=min k (n-k)) (by omega) (by omega)
   rwa [C6h (by simp;omega),C6s,C64 (by omega)] at this
  refine B5i P6 w2 (by simp) s2 (by simp) ?_
  intro h3 w3
  rw [C6d] at w3 ⊢
  have w4:=w.whole (l:=k) (m:=n) (by omega) (by omega) (by simp;omega) w3
  have e4:B5 ((k:Int)+(min k (n-k):Nat))=((k+min k (n-k):Nat):Int):=by rw [B7 (by omega) (by omega)];omega
  refine ⟨_,rfl,?_⟩
  rw [e4]
  refine ⟨⟨_,rfl,by omega,by omega,?_⟩,?_⟩
  ·have e5:(C5q k v++C5q (n-k) (0:Int)).take k++(C5q (min k (n-k)) v++(C5q (n-k) (0:Int)).drop (min k (n-k)))++(C5q k v++C5q (n-k) (0:Int)).drop n=C5q (k+min k (n-k)) v++C5q (n-(k+min k (n-k))) 0:=by
    rw [C7p (by simp),C65 (show (C5q k v++C5q (n-k) (0:Int)).length<=n by omega),C6i,C6t,<- C63,C70]
    congr 2;omega
   rw [e5] at w4
   exact w4
  ·simp only [iAt,C5x];omega
 ·have hkn:k=n:=by omega
  subst hkn
  have:=w.sl
  rw [Nat.sub_self,List.replicate_zero,C6i] at this
  exact hK _ _ w.le this
end
theorem Mw.high{h:Heap}{A:Option Addr}{an ac k:Nat}{x:Int}(ma:Mw h A an x)(ha:an<=ac)(hk:k<=an):Mw h (K9 A ac k 1) (an-k) (x/b64^k):=by
 obtain ⟨xs,rfl,sx,dx,nx,rfl⟩:=ma
 have e:=(Lh dx k).1
 rw [C64 hk] at e
 rw [e,<- C66]
 refine Mw.of (A0c sx hk ha) (dx.drop _) ?_
 by_cases hk2:k<xs.length
 ·exact Me nx hk2
 ·rw [C65 (by omega)];exact Norm.nil
theorem B4c{x P X2 yh top:Int}(hP:0<P)(h1:x<P*P*(X2+1))(h2:P*top<=x)(hlt:X2<yh):top<P*yh:=by
 by_cases hc:top<P*yh
 ·exact hc
 ·have t1:P*(P*yh)<=P*top:=C5u (by omega) (by omega)
  have t2:P*P*(X2+1)<=P*P*yh:=C5u (by omega) (C6g (by omega) (by omega))
  rw [C73 P P yh] at t2
  omega
theorem B4d{x P X2 yh top:Int}(hP:0<P)(h1:P*P*X2<=x)(h2:x<P*(top+1))(hge:yh<=X2):P*yh<=top:=by
 by_cases hc:P*yh<=top
 ·exact hc
 ·have t1:P*(top+1)<=P*(P*yh):=C5u (by omega) (by omega)
  have t2:P*P*yh<=P*P*X2:=C5u (by omega) (C6g (by omega) (by omega))
  rw [C73 P P yh] at t2
  omega
def B81(N:Nat):Prop:=∀ {h:Heap} {K:VP} {A B:Option Addr} {ac bc an bn:Nat} {x y:Int},bn<=N->Mw h A an x->Mw h B bn y->an<=ac->bn<=bc->an<=1000000000->bn<=200000000->0<bn->9223372036854775808*b64^(bn-1)<=y->x<b64^bn*y->
 (∀ A1 m1 c1 A2 m2 c2 h',h.le h'->m1<=c1->m2<=c2->Mw h' A1 m1 (x/y)->Mw h' A2 m2 (x%y)->K (.tuple #[.slice A1 m1 c1,.slice A2 m2 c2]) h')->FCall prog U5 #[.slice A an ac,.slice B bn bc] h K
section
variable {h g:Heap} {K:VP} {A B:Option Addr} {ac bc:Nat}
theorem Dc{x y:Int}:Vm x y<0↔x<y:=by
 unfold Vm
 by_cases h1:x<y
 ·rw [if_pos h1];simp [h1]
 ·rw [if_neg h1]
  by_cases h2:x>y
  ·rw [if_pos h2];simp [h1]
  ·rw [if_neg h2];simp [h1]
set_option maxHeartbeats 1000000 in
theorem A40{x y q0 R0 pr:Int}{m bn nq cq np cp nr cr:Nat}{Aq Ap Ar:Option Addr}(hx0:0<=x)(mb:Mw h B bn y)(hb:bn<=bc)(hl2:bn<=200000000)(hbm:bn=2*m)(mq:Mw h Aq nq q0)(hq:nq<=cq)(mp:Mw h Ap np pr)(hp2:pr<b64^bn)
 (mr:Mw h Ar nr R0) (hr:nr<=cr) (hq0:q0<b64^m) (hR:R0-pr=x-q0*y) (hy:x-q0*y<y)
 (hK:∀ A1 m1 c1 A2 m2 c2 h',h.le h'->m1<=c1->m2<=c2->Mw h' A1 m1 (x/y)->Mw h' A2 m2 (x%y)->K (.tuple #[.slice A1 m1 c1,.slice A2 m2 c2]) h'):
 At prog B bn bc K Aq nq cq Ap np cp Ar nr cr h:=by
 have hyB:=mb.lt (by decide)
 have hy0:=mb.nonneg (by decide)
 have hp0:=mp.nonneg (by decide)
 unfold At
 refine ⟨fun l hp=>∃ (Aq Ar:Option Addr) (nq cq nr cr:Nat) (q R:Int),l=[.slice Aq nq cq,.slice Ar nr cr]/\h.le hp/\Mw hp Aq nq q/\nq<=cq/\Mw hp Ar nr R/\nr<=cr/\q<b64^m/\R-pr=x-q*y/\x-q*y<y,fun l hp=>match l with|[.slice A n _,_]=>B0m b64 hp A n|_=>0,⟨_,_,_,_,_,_,_,_,rfl,B4 h,mq,hq,mr,hr,hq0,hR,hy⟩,?_⟩
 rintro A1 n1 c1 A2 n2 c2 hp ⟨Aq,Ar,nq,cq,nr,cr,q,R,hl,lh,mq,hq,mr,hr,hq0,hR,hy⟩
 simp only [C62,C67,and_true] at hl
 obtain ⟨⟨rfl,rfl,rfl⟩,rfl,rfl,rfl⟩:=hl
 have hnr:n2<=bn+1:=mr.len_le (by decide) (by
  rw [C6e]
  show R<b64^bn*18446744073709551616
  omega)
 have hnq:n1<=m:=mq.len_le (by decide) hq0
 refine I9 mr (mp.mono lh) (by omega) ⟨_,rfl,?_⟩
 refine B6 (fun h1=>?_) (fun h1=>?_)
 ·rw [Dc] at h1
  have hq1:=mq.nonneg (by decide)
  have hq2:1<=q:=by
   by_cases hc:1<=q
   ·exact hc
   ·obtain rfl:q=0:=by omega
    omega
  refine R8 mr (mb.mono lh) hr hb (by omega) (by omega) ?_
  intro A3 n3 c3 h3 l3 k3 M3
  refine ⟨_,_,_,rfl,An P6 rfl ?_⟩
  intro b hb'
  refine ⟨_,_,_,rfl,?_⟩
  have l4:=Heap.le_put (.cells #[U 1] C1) hb'
  have M1:Mw (h3.put b (.cells #[U 1] C1)) (some ⟨b,0,none⟩) 1 1:=⟨[1],rfl,SlI.new h3 b [1] C1 _,Dig.one (by decide),by simp [Norm],V4 _ _⟩
  refine H2 ((mq.mono l3).mono l4) M1 hq (by omega) hq2 ?_
  intro A5 n5 c5 h5 l5 k5 M5
  refine ⟨_,_,_,rfl,⟨_,_,_,_,_,_,_,_,rfl,B0 lh (B0 l3 (B0 l4 l5)),M5,k5,(M3.mono l4).mono l5,k3,by omega,?_,?_⟩,?_⟩
  ·rw [Int.sub_mul];omega
  ·rw [Int.sub_mul];omega
  ·simp only [Am M5,Am mq];omega
 ·rw [Dc] at h1
  refine H2 mr (mp.mono lh) hr (by omega) (by omega) ?_
  intro A3 n3 c3 h3 l3 k3 M3
  obtain ⟨d1,d2⟩:=A4v (x:=x) (a:=R-pr) (b:=q) (p:=y) (by rw [hR,C68 y];omega) (by omega) (by omega)
  refine ⟨_,_,_,rfl,hK _ _ _ _ _ _ _ (B0 lh l3) hq k3 ?_ ?_⟩
  ·rw [d1];exact mq.mono l3
  ·rw [d2];exact M3
set_option maxHeartbeats 1000000 in
theorem Sb{N:Nat}(ih:B81 N){x y:Int}{an bn m:Nat}(hm:0<m)(hN:m<=N)(hbm:bn=2*m)(ma:Mw h A an x)(mb:Mw h B bn y)(ha:an<=ac)(hb:bn<=bc)(hl:an<=1000000000)(hl2:bn<=200000000)(htop:9223372036854775808*b64^(bn-1)<=y)(hxy:x<b64^m*y)
 (hK:∀ A1 m1 c1 A2 m2 c2 h',h.le h'->m1<=c1->m2<=c2->Mw h' A1 m1 (x/y)->Mw h' A2 m2 (x%y)->K (.tuple #[.slice A1 m1 c1,.slice A2 m2 c2]) h'):FCall prog U4 #[.slice A an ac,.slice B bn bc] h K:=by
 have hx0:=ma.nonneg (by decide)
 have hy0:=mb.nonneg (by decide)
 have hyB:=mb.lt (by decide)
 have hP:=D7 (B:=b64) (by decide) m
 have hPP:b64^bn=b64^m*b64^m:=by rw [<- C6j];congr 1;omega
 have hPP2:b64^(2*m)=b64^m*b64^m:=by rw [<- C6j];congr 1;omega
 have hPt:b64^(bn-1)=b64^m*b64^(m-1):=by rw [<- C6j];congr 1;omega
 have hyh:=mb.high (k:=m) hb (by omega)
 rw [show bn-m=m by omega] at hyh
 have hyh0:=hyh.nonneg (by decide)
 have hyhB:=hyh.lt (by decide)
 have dy:b64^m*(y/b64^m)+y%b64^m=y:=C61 _ _
 have dy1:=C6a y (b:=b64^m) (by omega)
 have dy2:=C60 y hP
 have dx:b64^m*(x/b64^m)+x%b64^m=x:=C61 _ _
 have dx1:=C6a x (b:=b64^m) (by omega)
 have dx2:=C60 x hP
 have hPm:=D7 (B:=b64) (by decide) (m-1)
 have hyt:9223372036854775808*b64^(m-1)<=y/b64^m:=by
  by_cases hc:9223372036854775808*b64^(m-1)<=y/b64^m
  ·exact hc
  ·have t1:b64^m*(y/b64^m+1)<=b64^m*(9223372036854775808*b64^(m-1)):=C5u (by omega) (by omega)
   have t2:b64^m*(9223372036854775808*b64^(m-1))=9223372036854775808*(b64^m*b64^(m-1)):=by grind
   rw [hPt] at htop
   rw [C7i] at t1
   omega
 obtain ⟨ys,hys,sy,dys,nys,rfl⟩:=mb
 have mb:Mw h B bn (val b64 ys):=⟨ys,hys,sy,dys,nys,rfl⟩
 generalize hyv:val b64 ys=y at *
 refine Ra _ _ _ _ _ _ ?_
 unfold Ns
 have eh:B5 (C79 ((bn:Nat):Int) 2)=(m:Int):=by rw [C77 (by omega),B7 (by omega) (by omega)];omega
 have e2h:B5 (2*(m:Int))=((2*m:Nat):Int):=by rw [B7 (by omega) (by omega)];omega
 simp only [eh,e2h,C5r,C6u,I3]
 rw [show bn-m=m by omega]
 refine ⟨⟨by omega,by omega⟩,⟨by omega,by omega⟩,Bh (Jn sy (m:=m) (c:=bc) (by omega) (by omega)) (dys.take m) (by rw [C5z];omega) rfl (by omega) (by omega) ?_⟩
 intro yn hyn Myl
 have eyl:=(Lh dys m).2
 rw [C64 (by omega),hyv] at eyl
 rw [<- eyl] at Myl
 refine ⟨_,_,_,rfl,B4 h,Z2 ma ha ?_⟩
 intro A1 n1 c1 k1 k1' M1
 refine ⟨_,_,_,rfl,?_⟩
 have ht0:=M1.nonneg (by decide)
 refine ⟨fun l hp=>∃ (Aq Ar:Option Addr) (nq cq nr cr:Nat) (q r:Int),l=[.slice Aq nq cq,.slice Ar nr cr]/\h.le hp/\Mw hp Aq nq q/\nq<=cq/\Mw hp Ar nr r/\nr<=cr/\q<b64^m/\x/b64^m=q*(y/b64^m)+r/\x-q*y<y,?_,?_⟩
 ·refine Z2 ma ha ?_
  intro A2 n2 c2 k2 k2' M2
  refine ⟨_,_,_,rfl,I9 M2 hyh (by omega) ⟨_,rfl,?_⟩⟩
  have x2a:b64^(2*m)*(x/b64^(2*m))+x%b64^(2*m)=x:=C61 _ _
  have x2b:=C6a x (b:=b64^(2*m)) (by have:=D7 (B:=b64) (by decide) (2*m);omega)
  have x2c:=C60 x (D7 (B:=b64) (by decide) (2*m))
  generalize x/b64^(2*m)=X2 at *
  rw [hPP2] at x2a x2b x2c
  refine B6 (fun h1=>?_) (fun h1=>?_)
  ·rw [Dc] at h1
   have ht:=B4c (x:=x) (top:=x/b64^m) hP (by rw [C7i];omega) (by omega) h1
   refine ih hN M1 hyh k1 (by omega) (by omega) (by omega) hm hyt ht ?_
   intro A3 n3 c3 A4 n4 c4 h3 l3 k3 k4 M3 M4
   have hyp:0<y/b64^m:=by omega
   have d1:=C61 (x/b64^m) (y/b64^m)
   have d2:=C60 (x/b64^m) hyp
   have d0:=M3.nonneg (by decide)
   refine ⟨_,_,_,_,_,_,rfl,_,_,_,_,_,_,_,_,rfl,l3,M3,k3,M4,k4,C6l hyp ht,by rw [C68];omega,?_⟩
   generalize (x/b64^m)/(y/b64^m)=q at *
   generalize (x/b64^m)%(y/b64^m)=r at *
   generalize x/b64^m=top at *
   generalize y/b64^m=yh at *
   generalize y%b64^m=yl at *
   generalize x%b64^m=xl at *
   generalize b64^m=P at *
   have t1:P*(r+1)<=P*yh:=C5u (by omega) (by omega)
   have t2:x-q*y=P*r+xl-q*yl:=by rw [<- dx,<- dy,<- d1];grind
   have t3:=C6g d0 dy1
   rw [C7i] at t1
   omega
  ·rw [Dc] at h1
   have ht:=B4d (x:=x) (top:=x/b64^m) (yh:=y/b64^m) (X2:=X2) hP (by omega) (by rw [C7i];omega) (by omega)
   refine An P6 rfl ?_
   intro b hb'
   refine ⟨_,_,_,rfl,?_⟩
   have l4:=Heap.le_put (.cells #[U 18446744073709551615] C1) hb'
   refine A48 (v:=18446744073709551615) (SlI.new h b [18446744073709551615] C1 _) hm (by omega) ?_
   intro A5 h5 l5 s5
   refine ⟨_,_,_,rfl,?_⟩
   have l45:=B0 l4 l5
   refine Hl (hyh.mono l45) (Mag.zero (k:=.u64) (B:=b64)) (by omega) (by omega) ?_
   intro A6 n6 c6 h6 l6 k6 M6
   refine ⟨_,_,_,rfl,?_⟩
   have l46:=B0 l45 l6
   refine H2 (M1.mono l46) M6 k1 (by omega) (by rw [C68];omega) ?_
   intro A7 n7 c7 h7 l7 k7 M7
   have hn7:n7<=an:=M7.len_le (by decide) (by
    have:=ma.lt (by decide)
    have t1:=C6g hyh0 (C69 hP)
    have t2:1*(x/b64^m)<=b64^m*(x/b64^m):=C5w (by omega) ht0
    omega)
   refine ⟨_,_,_,rfl,?_⟩
   refine R8 M7 ((hyh.mono l46).mono l7) k7 (by omega) (by omega) (by omega) ?_
   intro A8 n8 c8 h8 l8 k8 M8
   have hrep:∀ j:Nat,val b64 (C5q j 18446744073709551615)=b64^j-1:=by
    intro j
    induction j with
    | zero=>rfl
    | succ j ihj=>
     rw [List.replicate_succ,val,ihj,C6e]
     show (18446744073709551615:Int)+18446744073709551616*(b64^j-1)=b64^j*18446744073709551616-1
     omega
   have M5:Mw h5 A5 m (b64^m-1):=by
    refine ⟨C5q m 18446744073709551615,by simp,s5,?_,?_,hrep m⟩
    ·intro z hz
     have:=List.eq_of_mem_replicate hz
     subst this;decide
    ·obtain ⟨j,rfl⟩:∃ j,m=j+1:=⟨m-1,by omega⟩
     unfold Norm
     rw [C72]
     simp
   refine ⟨_,_,_,rfl,_,_,_,_,_,_,_,_,rfl,B0 l46 (B0 l7 l8),((M5.mono l6).mono l7).mono l8,C6z _,M8,k8,by omega,?_,?_⟩
   ·grind
   ·have:(b64^m-1)*y=b64^m*y-y:=by grind
    omega
 ·rintro Aq' nq' cq' Ar' nr' cr' hp ⟨Aq,Ar,nq,cq,nr,cr,q,r,hli,lh,mq,hq,mr,hr,hqP,htq,hqy⟩
  simp only [C62,C67,and_true] at hli
  obtain ⟨⟨rfl,rfl,rfl⟩,rfl,rfl,rfl⟩:=hli
  have hq0:=mq.nonneg (by decide)
  have hr0:=mr.nonneg (by decide)
  have hnq:nq'<=m:=mq.len_le (by decide) hqP
  have hnr:nr'<=an:=mr.len_le (by decide) (by
   have:=ma.lt (by decide)
   have t1:=C6g hq0 hyh0
   have t2:1*(x/b64^m)<=b64^m*(x/b64^m):=C5w (by omega) ht0
   omega)
  refine H8 mq (Myl.mono lh) hq (by omega) (by omega) (by omega) ?_
  intro A3 n3 c3 h3 l3 k3 M3
  refine ⟨_,_,_,rfl,Fl (ma.mono (B0 lh l3)) ha (by omega) ?_⟩
  intro A4 n4 c4 k4 k4' k4'' M4
  refine ⟨_,_,_,rfl,Hl (mr.mono l3) M4 k4' (by omega) ?_⟩
  intro A5 n5 c5 h5 l5 k5 M5
  have l05:=B0 lh (B0 l3 l5)
  refine ⟨_,_,_,rfl,A40 (q0:=q) (m:=m) hx0 (mb.mono l05) hb hl2 hbm ((mq.mono l3).mono l5) hq (M3.mono l5) ?_ M5 k5 hqP ?_ hqy ?_⟩
  ·rw [hPP]
   have t1:q*(y%b64^m)<=q*b64^m:=C5u (by omega) hq0
   have t2:q*b64^m<b64^m*b64^m:=C6k hqP hP
   omega
  ·generalize x/b64^m=top at *
   generalize y/b64^m=yh at *
   generalize y%b64^m=yl at *
   generalize x%b64^m=xl at *
   generalize b64^m=P at *
   rw [<- dx,<- dy,htq];grind
  ·intro A6 n6 c6 A7 n7 c7 h7 l7 k6 k7 M6 M7
   exact hK _ _ _ _ _ _ _ (B0 l05 l7) k6 k7 M6 M7
end
set_option maxHeartbeats 1000000 in
theorem C1i:∀ N,B81 N:=by
 intro N
 induction N with
 | zero=>intro h K A B ac bc an bn x y h1 _ _ _ _ _ _ h2;omega
 | succ N ih=>
  intro h K A B ac bc an bn x y hN ma mb ha hb hl hl2 hb0 htop hxy hK
  have hx0:=ma.nonneg (by decide)
  have hy0:=mb.nonneg (by decide)
  have hyp:0<y:=by
   have:=D7 (B:=b64) (by decide) (bn-1);omega
  refine Rc _ _ _ _ _ _ ?_
  unfold Nu
  have simple:FCall prog J2 #[.slice A an ac,.slice B bn bc] h (fun r hp=>∃ (t22aA:Option Addr) (t22an:Nat) (t22ac:Nat) (t22bA:Option Addr) (t22bn:Nat) (t22bc:Nat),r= .tuple #[.slice t22aA t22an t22ac,.slice t22bA t22bn t22bc]/\K (.tuple #[.slice t22aA t22an t22ac,.slice t22bA t22bn t22bc]) hp):=by
   refine Ek ma mb ha hb (by omega) hl (by omega) ?_
   intro A1 m1 c1 A2 m2 c2 h' l k1 k2 M1 M2
   exact ⟨_,_,_,_,_,_,rfl,hK _ _ _ _ _ _ _ l k1 k2 M1 M2⟩
  refine B6 (fun h1=>simple) (fun h1=>?_)
  refine G9 (fun h2=>simple) (fun h2=>?_)
  rw [C76 (by omega)] at h2
  obtain ⟨m,hbm⟩:∃ m,bn=2*m:=⟨bn/2,by omega⟩
  have eh:B5 (C79 ((bn:Nat):Int) 2)=(m:Int):=by rw [C77 (by omega),B7 (by omega) (by omega)];omega
  simp only [eh]
  have hP:=D7 (B:=b64) (by decide) m
  have hPP:b64^bn=b64^m*b64^m:=by rw [<- C6j];congr 1;omega
  have dx:b64^m*(x/b64^m)+x%b64^m=x:=C61 _ _
  have dx1:=C6a x (b:=b64^m) (by omega)
  have dx2:=C60 x hP
  rw [hPP] at hxy
  refine Z2 ma ha ?_
  intro A1 n1 c1 k1 k1' M1
  refine ⟨_,_,_,rfl,?_⟩
  have ht:x/b64^m<b64^m*y:=by
   by_cases hc:x/b64^m<b64^m*y
   ·exact hc
   ·have t1:b64^m*(b64^m*y)<=b64^m*(x/b64^m):=C5u (by omega) (by omega)
    rw [C73] at hxy
    omega
  refine Sb ih (by omega) (by omega) hbm M1 mb k1 hb (by omega) hl2 htop ht ?_
  intro A2 n2 c2 A3 n3 c3 h3 l3 k2 k3 M2 M3
  refine ⟨_,_,_,_,_,_,rfl,Fl (ma.mono l3) ha (by omega) ?_⟩
  intro A4 n4 c4 k4 k4' k4'' M4
  have d1:=C61 (x/b64^m) y
  have d2:=C60 (x/b64^m) hyp
  have d3:=C6a (x/b64^m) (b:=y) (by omega)
  have hq1:x/b64^m/y<b64^m:=C6l hyp ht
  have hn3:n3<=bn:=M3.len_le (by decide) (by have:=mb.lt (by decide);omega)
  have hn2:n2<=m:=M2.len_le (by decide) hq1
  refine ⟨_,_,_,rfl,Hl M3 M4 k4' (by omega) ?_⟩
  intro A5 n5 c5 h5 l5 k5 M5
  refine ⟨_,_,_,rfl,?_⟩
  have hj:(x/b64^m)%y*b64^m+x%b64^m<b64^m*y:=by
   have t1:b64^m*((x/b64^m)%y+1)<=b64^m*y:=C5u (by omega) (by omega)
   rw [C7i,C68] at t1
   omega
  have hn5:n5<=bn+m:=M5.len_le (by decide) (by
   have t1:b64^m*y<b64^m*b64^bn:=C8c (mb.lt (by decide)) hP
   rw [Nat.add_comm,C6j];omega)
  refine Sb ih (by omega) (by omega) hbm M5 (mb.mono (B0 l3 l5)) k5 hb (by omega) hl2 htop hj ?_
  intro A6 n6 c6 A7 n7 c7 h7 l7 k6 k7 M6 M7
  have hn6:n6<=m:=M6.len_le (by decide) (C6l hyp hj)
  refine ⟨_,_,_,_,_,_,rfl,Hl ((M2.mono l5).mono l7) M6 hn6 (by omega) ?_⟩
  intro A8 n8 c8 h8 l8 k8 M8
  refine ⟨_,_,_,rfl,?_⟩
  have e1:=C61 ((x/b64^m)%y*b64^m+x%b64^m) y
  have e2:=C60 ((x/b64^m)%y*b64^m+x%b64^m) hyp
  have e3:=C6a ((x/b64^m)%y*b64^m+x%b64^m) (b:=y) (by omega)
  have M7':=M7.mono l8
  have l08:=B0 l3 (B0 l5 (B0 l7 l8))
  generalize ((x/b64^m)%y*b64^m+x%b64^m)/y=q2 at *
  obtain ⟨f1,f2⟩:=A4v (x:=x) (a:=((x/b64^m)%y*b64^m+x%b64^m)%y) (b:=x/b64^m/y*b64^m+q2) (p:=y) (by
   generalize ((x/b64^m)%y*b64^m+x%b64^m)%y=r2 at *
   generalize x/b64^m/y=q1 at *
   generalize x/b64^m%y=r1 at *
   generalize x/b64^m=top at *
   generalize x%b64^m=xl at *
   generalize b64^m=P at *
   grind) e3 e2
  refine hK _ _ _ _ _ _ _ l08 k8 k7 ?_ ?_
  ·rw [f1];exact M8
  ·rw [f2];exact M7'
theorem Wy{ys:List Int}{k t s:Nat}(dy:Dig b64 ys)(hk:ys.length=k+1)(ht:ys.getD k 0=(t:Int))(ht0:t≠0)(hs:s=64-N8 t):s<64/\val b64 ys*2^s<b64^(k+1)/\9223372036854775808*b64^k<=val b64 ys*2^s:=by
 have gt:=N6 dy k
 obtain ⟨hyt,hyt2⟩:=Bw (B:=b64) (by decide) dy (m:=k) hk
 rw [ht] at gt hyt hyt2
 obtain ⟨hb1',hb2'⟩:=Er ht0
 have hb64:N8 t<=64:=If (k:=64) (by omega)
 have hbb0:1<=N8 t:=by unfold N8;rw [if_neg ht0];omega
 have hs64:s<64:=by omega
 have hps:0<(2:Int)^s:=C6o (by decide)
 have hsp:=Ab (s:=s) (by omega)
 have hblen:N8 t=64-s:=by omega
 have htl:(t:Int)+1<=2^(64-s):=by
  rw [<- hblen]
  have:((t+1:Nat):Int)<=((2^N8 t:Nat):Int):=by omega
  simpa using this
 have htg:(2:Int)^(63-s)<=t:=by
  have:((2^(N8 t-1):Nat):Int)<=((t:Nat):Int):=by omega
  rw [show N8 t-1=63-s by omega] at this
  simpa using this
 have hp63:(2:Int)^s*2^(63-s)=9223372036854775808:=by
  rw [<- C6j,show s+(63-s)=63 by omega];decide
 have hpm:=D7 (B:=b64) (by decide) k
 refine ⟨hs64,?_,?_⟩
 ·have t2:val b64 ys*2^s<((t:Int)+1)*b64^k*2^s:=C6k hyt hps
  have t3:((t:Int)+1)*b64^k*2^s=((t:Int)+1)*2^s*b64^k:=by grind
  have t4:((t:Int)+1)*2^s*b64^k<=18446744073709551616*b64^k:=by
   apply C5w _ (C69 hpm)
   rw [<- hsp,C68 (2^s)]
   exact C5w htl (C69 hps)
  have t5:b64^(k+1)=18446744073709551616*b64^k:=by rw [C6e b64 k,C68]
  omega
 ·have t1:(t:Int)*b64^k*2^s<=val b64 ys*2^s:=C5w hyt2 (C69 hps)
  have t2:9223372036854775808*b64^k<=(t:Int)*2^s*b64^k:=by
   apply C5w _ (C69 hpm)
   rw [<- hp63,C68 (t:Int)]
   exact C5u htg (by omega)
  have t3:(t:Int)*2^s*b64^k=(t:Int)*b64^k*2^s:=by grind
  omega
section
variable {h g:Heap} {K:VP} {A B:Option Addr} {ac bc:Nat}
set_option maxHeartbeats 1000000 in
theorem A50{D V a b:Int}{S sh dn dc vc bn bq:Nat}{pieces t46:Int}{DA VA:Option Addr}(hS:B5 ((B5 (C79 (B5 ((B5 (((bn:Nat):Int)+pieces))-(1:Int))) pieces))*pieces)=(S:Int))
 (hsh:C0 (B5 ((B5 ((64:Int)*(B5 ((S:Int)-((bn:Nat):Int)))))+t46))=(sh:Int)) (hS0:0<S) (hS2:S<=200000000) (hsh2:sh<=100000000000) (hb:h bq=none) (hD:Mw h DA dn D) (hdc:dn<=dc) (hdn:0<dn) (hdl:dn<=2000000000) (hV:Mw h VA S V) (hvc:S<=vc) (hVt:9223372036854775808*b64^(S-1)<=V)
 (hDa:D=a*2^sh) (hVb:V=b*2^sh)
 (hK:∀ A1 m1 c1 A2 m2 c2 h',h.le h'->m1<=c1->m2<=c2->Mw h' A1 m1 (a/b)->Mw h' A2 m2 (a%b)->K (.tuple #[.slice A1 m1 c1,.slice A2 m2 c2]) h'):
 Ax prog bn K pieces t46 VA S vc DA dn dc (some ⟨bq,0,none⟩) (dn+S) (dn+S) (blk .u64 C1 h bq (C5q (dn+S) 0)):=by
 have hD0:=hD.nonneg (by decide)
 have hDlt:=hD.lt (by decide)
 have hVlt:=hV.lt (by decide)
 have hV0:0<V:=by have:=D7 (B:=b64) (by decide) (S-1);omega
 have hp:0<(2:Int)^sh:=C6o (by decide)
 have hQ:=D7 (B:=b64) (by decide) S
 unfold Ax
 simp only [hS,hsh]
 obtain ⟨nb,hnb⟩:∃ nb,nb=(dn-1)/S:=⟨_,rfl⟩
 have hnb1:nb*S<=dn-1:=by rw [hnb];exact Nat.div_mul_le_self _ _
 have hnb2:dn-1<nb*S+S:=by
  have h1:=C7o (dn-1) S
  have h2:=Nat.mod_lt (dn-1) hS0
  rw [<- hnb,C7m] at h1
  omega
 have e1:B5 (B5 (C79 (B5 ((dn:Int)-1)) (S:Int))*(S:Int))=((nb+1:Nat):Int)*S-S:=by
  rw [B7 (n:=(dn:Int)-1) (by omega) (by omega),show (dn:Int)-1=((dn-1:Nat):Int) by omega,<- C6m,<- hnb]
  have:nb<=dn-1:=by rw [hnb];exact C89 _ _
  have h3:(nb:Int)*(S:Int)=((nb*S:Nat):Int):=by simp
  rw [B7 (n:=(nb:Int)) (by omega) (by omega),h3,B7 (by omega) (by omega),C7u,Int.add_mul,h3]
  omega
 refine ⟨fun l hp=>∃ (j n c:Nat) (A:Option Addr) (ws:List Int) (r:Int) (g:Heap),l=[.slice A n c,I ((j:Int)*S-S)]/\h.le g/\j*S+ws.length=dn+S/\Dig b64 ws/\Win .u64 hp g bq C1 (some ⟨bq,0,none⟩) [] (C5q (j*S) 0++ws) []/\Mw g A n r/\n<=c/\r=(D/b64^(j*S))%V/\val b64 ws=(D/b64^(j*S))/V,fun l _=>(iAt l 1+S).toNat,⟨nb+1,0,0,none,C5q (dn-1+1-nb*S) 0,0,h,by rw [e1],B4 h,?_,I4 (by decide) _,?_,Mag.zero,C6z _,?_,?_⟩,?_⟩
 ·rw [C6d,C7h,C7f];omega
 ·rw [C70,show (nb+1)*S+(dn-1+1-nb*S)=dn+S by rw [C7h,C7f];omega]
  exact Win.blk .u64 C1 hb _
 ·have:=D3 (B:=b64) (by decide) (show dn<=(nb+1)*S by rw [C7h,C7f];omega)
  rw [Int.ediv_eq_zero_of_lt hD0 (by omega),Int.zero_emod]
 ·have:=D3 (B:=b64) (by decide) (show dn<=(nb+1)*S by rw [C7h,C7f];omega)
  rw [Int.ediv_eq_zero_of_lt hD0 (by omega),Int.zero_ediv,Cf]
 rintro A1 n1 c1 st hp5 ⟨j,n,c,A',ws,r,g,hli,lg,hjl,dws,w,Mr,hnc,hr,hws⟩
 simp only [C62,C67,C6b,and_true,true_and] at hli
 obtain ⟨⟨rfl,rfl,rfl⟩,rfl⟩:=hli
 refine B6 (fun h1=>?_) (fun h1=>?_)
 ·obtain ⟨i,rfl⟩:∃ i,j=i+1:=⟨j-1,by
   rcases j with _|j
   ·simp at h1;omega
   ·rfl⟩
  obtain ⟨e,he⟩:∃ e,e=i*S:=⟨_,rfl⟩
  have he1:(i+1)*S=e+S:=by rw [he,C7h,C7f]
  have hst:((i+1:Nat):Int)*(S:Int)-(S:Int)=(e:Int):=by rw [<- C6f,he1];omega
  rw [he1] at hjl w hr hws
  rw [hst]
  have hQe:=D7 (B:=b64) (by decide) e
  refine w.call (Z2 (hD.mono lg) hdc ?_)
  intro A2 n2 c2 k2 k2' M2 h2 w2
  refine ⟨_,_,_,rfl,w2.call (Fl M2 k2 (by omega) ?_)⟩
  intro A3 n3 c3 k3 k3' k3'' M3 h3 w3
  have hr0:=Mr.nonneg (by decide)
  have hrV:r<V:=by rw [hr];exact C60 _ hV0
  have hn1:n1<=S:=Mr.len_le (by decide) (by omega)
  refine ⟨_,_,_,rfl,w3.call (Hl Mr M3 k3' (by omega) ?_)⟩
  intro A4 n4 c4 g4 l4 k4 M4 h4 w4
  have hD2:D/b64^(e+S)=D/b64^e/b64^S:=by rw [C6j,Int.ediv_ediv_of_nonneg (by omega)]
  rw [hD2] at hr hws
  have dm:=C61 (D/b64^e) (b64^S)
  have bl0:=C6a (D/b64^e) (b:=b64^S) (by omega)
  have bl1:=C60 (D/b64^e) hQ
  generalize hD1:D/b64^e=D1 at *
  have hjlt:r*b64^S+D1%b64^S<b64^S*V:=by
   have t1:b64^S*(r+1)<=b64^S*V:=C5u (by omega) (by omega)
   rw [C7i,C68] at t1
   omega
  have hn4:n4<=S+S:=M4.len_le (by decide) (by
   have t1:b64^S*V<b64^S*b64^S:=C8c hVlt hQ
   rw [C6j];omega)
  have lg4:=B0 lg l4
  refine ⟨_,_,_,rfl,w4.call (C1i S (C6z _) M4 (hV.mono lg4) k4 hvc (by omega) hS2 hS0 hVt hjlt ?_)⟩
  intro A5 n5 c5 A6 n6 c6 g6 l6 k5 k6 M5 M6 h6 w6
  have hn5:n5<=S:=M5.len_le (by decide) (C6l hV0 hjlt)
  refine ⟨_,_,_,_,_,_,rfl,⟨by omega,by omega⟩,?_⟩
  rw [C5r]
  have hzs:C5q (e+S) (0:Int)++ws=C5q e 0++(C5q S 0++ws):=by rw [<- C63,C70]
  rw [hzs] at w6
  have hzl:(C5q e (0:Int)++(C5q S 0++ws)).length=dn+S:=by simp only [C5s,C6d];omega
  have w7:=w6.sub (l:=e) (m:=dn+S) (c:=dn+S) (by omega) (by omega) (by omega)
  have e7:((C5q e (0:Int)++(C5q S 0++ws)).drop e).take (dn+S-e)=C5q S 0++ws:=by
   rw [List.drop_left' (by simp),C5v (by simp only [C5s,C6d];omega)]
  rw [e7] at w7
  obtain ⟨ds,hdsl,sds,dds,nds,hdsv⟩:=M5
  refine Gg P6 w7 (by simp only [C5s,C6d];omega) (sds.mono w6.le) hdsl (by simp only [C5s,C6d];omega) ?_
  intro h8 w8
  rw [C87 (by simp;omega),C6t,<- C63 ds] at w8
  have hdl2:(ds++C5q (S-ds.length) (0:Int)).length=S:=by simp;omega
  have w9:=w6.whole (l:=e) (m:=dn+S) (by omega) (by omega) (by rw [C5s,hdl2];omega) w8
  rw [C7p (by simp),C65 (show (C5q e (0:Int)++(C5q S 0++ws)).length<=dn+S by omega),C6i] at w9
  have e8:B5 ((e:Int)-(S:Int))=((i:Nat):Int)*S-S:=by
   rw [B7 (by omega) (by omega),he,C6f]
  have dmr:=C61 (r*b64^S+D1%b64^S) V
  have dmr1:=C6a (r*b64^S+D1%b64^S) (b:=V) (by omega)
  have dmr2:=C60 (r*b64^S+D1%b64^S) hV0
  have dm2:=C61 (D1/b64^S) V
  rw [<- hr,<- hws] at dm2
  obtain ⟨f1,f2⟩:=A4v (x:=D1) (a:=(r*b64^S+D1%b64^S)%V) (b:=val b64 ds+b64^S*val b64 ws) (p:=V) (by
   rw [hdsv]
   generalize (r*b64^S+D1%b64^S)%V=r2 at *
   generalize hq2:(r*b64^S+D1%b64^S)/V=q2 at *
   generalize D1%b64^S=bl at *
   generalize D1/b64^S=D2 at *
   generalize b64^S=Q at *
   generalize val b64 ws=W at *
   grind) dmr1 dmr2
  refine ⟨_,rfl,?_⟩
  rw [e8]
  refine ⟨⟨i,_,_,_,(ds++C5q (S-ds.length) 0)++ws,_,g6,rfl,B0 lg4 l6,?_,?_,?_,M6,k6,?_,?_⟩,?_⟩
  ·rw [C5s,hdl2];omega
  ·exact (dds.append (I4 (by decide) _)).append dws
  ·rw [<- he];exact w9
  ·rw [<- he,hD1,f2]
  ·rw [<- he,hD1,f1,G2,hdl2,Cw]
  ·simp only [iAt,C5y,C5x]
   rw [<- C6f,<- he]
   omega
 ·obtain rfl:j=0:=by
   rcases j with _|j
   ·rfl
   ·rw [<- C6f,C7h,C7f] at h1
    omega
  rw [Nat.zero_mul,List.replicate_zero,C75] at w
  rw [Nat.zero_mul,Int.pow_zero,Int.ediv_one] at hr hws
  rw [Nat.zero_mul,C7l] at hjl
  have hb0:0<b:=by
   by_cases hc:0<b
   ·exact hc
   ·have:=C5w (show b<=0 by omega) (C69 hp);omega
  obtain ⟨f1,f2⟩:=A4v (x:=D) (a:=(a%b)*2^sh) (b:=a/b) (p:=V) (by
   have:=C61 a b
   rw [hDa,hVb]
   conv=>rhs;rw [<- this]
   grind) (C6g (C6a _ (by omega)) (by omega)) (by rw [hVb];exact C6k (C60 _ hb0) hp)
  refine Bh w.sl dws hjl.symm hws (by omega) (by omega) ?_
  intro m2 k2 M2
  refine ⟨_,_,_,rfl,?_⟩
  refine Gk (Mr.mono w.le) (by have:=Mr.len_le (j:=S) (by decide) (by have:=C60 D hV0;omega);omega) (by omega) ?_
  intro A3 n3 c3 h3 l3 k3 M3
  rw [hr,f2,Int.mul_ediv_cancel _ (by omega)] at M3
  rw [f1] at M2
  exact ⟨_,_,_,rfl,hK _ _ _ _ _ _ _ (B0 lg (B0 w.le l3)) k2 k3 (M2.mono l3) M3⟩
set_option maxHeartbeats 1000000 in
theorem Pi{x y:Int}{an bn:Nat}(ma:Mw h A an x)(mb:Mw h B bn y)(ha:an<=ac)(hbc:bn<=bc)(hl:an<=800000000)(hl2:bn<=100000000)(ha0:0<an)(hb0:0<bn)
 (hK:∀ A1 m1 c1 A2 m2 c2 h',h.le h'->m1<=c1->m2<=c2->Mw h' A1 m1 (x/y)->Mw h' A2 m2 (x%y)->K (.tuple #[.slice A1 m1 c1,.slice A2 m2 c2]) h'):FCall prog Cm #[.slice A an ac,.slice B bn bc] h K:=by
 have hx0:=ma.nonneg (by decide)
 have hxz:=ma.len_zero (by decide)
 have hxlt:=ma.lt (by decide)
 refine Rd _ _ _ _ _ _ ?_
 unfold Nv Ik
 refine ⟨fun l hp=>hp=h/\∃ p:Nat,l=[I p]/\0<p/\p<=bn,fun l _=>bn-(iAt l 0).toNat,⟨rfl,1,rfl,by omega,by omega⟩,?_⟩
 rintro pieces hp ⟨rfl,p,hli,hp0,hpb⟩
 obtain rfl:=sI1 hli
 have e1:B5 (C79 (B5 (B5 ((bn:Int)+(p:Int))-1)) (p:Int))=(((bn+p-1)/p:Nat):Int):=by
  rw [B7 (n:=(bn:Int)+p) (by omega) (by omega),B7 (n:=(bn:Int)+p-1) (by omega) (by omega),show (bn:Int)+p-1=((bn+p-1:Nat):Int) by omega,<- C6m]
  have:(bn+p-1)/p<=bn+p-1:=C89 _ _
  generalize (bn+p-1)/p=q at *
  rw [B7 (by omega) (by omega)]
 refine B6 (fun h1=>by omega) (fun _=>?_)
 obtain ⟨S,hS⟩:∃ S,S=(bn+p-1)/p*p:=⟨_,rfl⟩
 have hS1:bn<=S/\S<=bn+p-1:=by
  have h1:=C7o (bn+p-1) p
  have h2:=Nat.mod_lt (bn+p-1) hp0
  rw [C7m,<- hS] at h1
  omega
 have e2:B5 ((B5 (C79 (B5 (B5 ((bn:Int)+(p:Int))-1)) (p:Int)))*(p:Int))=(S:Int):=by
  rw [e1,<- C6f,<- hS,B7 (by omega) (by omega)]
 refine B6 (fun h1=>?_) (fun h1=>?_)
 ·rw [e1] at h1
  have h2:80<=(bn+p-1)/p:=by omega
  rw [Nat.le_div_iff_mul_le hp0] at h2
  have e3:B5 ((p:Int)*2)=((p*2:Nat):Int):=by rw [B7 (by omega) (by omega)];omega
  rw [e3]
  exact ⟨⟨rfl,_,rfl,by omega,by omega⟩,by simp only [iAt,C5x];omega⟩
 ·refine B6 (fun h1=>by omega) (fun _=>?_)
  obtain ⟨k,hk⟩:∃ k,bn=k+1:=⟨bn-1,by omega⟩
  have mb':=mb
  obtain ⟨ys,hys,sy,dy,ny,rfl⟩:=mb
  have hys':ys.length=k+1:=by omega
  have gt:=N6 dy k
  have ht0:=A1h hys' ny
  have e3:B5 ((bn:Int)-1)=(k:Int):=by rw [B7 (by omega) (by omega)];omega
  rw [e3]
  subst hys
  refine sy.load rfl (by omega) (by omega) ?_
  rw [C5r]
  obtain ⟨t,ht⟩:∃ t:Nat,ys.getD k 0=t:=⟨(ys.getD k 0).toNat,by omega⟩
  rw [ht] at gt ht0 ⊢
  refine R2 (by omega) ⟨_,rfl,?_⟩
  obtain ⟨s,hs⟩:∃ s,s=64-N8 t:=⟨_,rfl⟩
  rw [<- hs]
  obtain ⟨hs64,hY1,hY2⟩:=Wy dy hys' ht (by omega) hs
  simp only [e2]
  obtain ⟨sh,hsh⟩:∃ sh,sh=64*(S-ys.length)+s:=⟨_,rfl⟩
  have e4:C0 (B5 (B5 (64*B5 ((S:Int)-(ys.length:Int)))+(s:Int)))=(sh:Int):=by
   rw [B7 (n:=(S:Int)-(ys.length:Int)) (by omega) (by omega),B7 (n:=64*((S:Int)-(ys.length:Int))) (by omega) (by omega),B7 (by omega) (by omega),C2 (by omega) (by omega)]
   omega
  simp only [e4]
  have hpow:(2:Int)^sh=2^s*b64^(S-ys.length):=by rw [hsh,C6j,Kj,C68]
  have hpS:=D7 (B:=b64) (by decide) (S-ys.length)
  have hps:0<(2:Int)^s:=C6o (by decide)
  have hpsh:0<(2:Int)^sh:=C6o (by decide)
  have hVe:val b64 ys*2^sh=val b64 ys*2^s*b64^(S-ys.length):=by rw [hpow,C73]
  have hV1:val b64 ys*2^sh<b64^S:=by
   have t1:val b64 ys*2^s*b64^(S-ys.length)<b64^(k+1)*b64^(S-ys.length):=C6k hY1 hpS
   rw [<- C6j,show k+1+(S-ys.length)=S by omega] at t1
   omega
  have hV2:9223372036854775808*b64^(S-1)<=val b64 ys*2^sh:=by
   have t1:9223372036854775808*b64^k*b64^(S-ys.length)<=val b64 ys*2^s*b64^(S-ys.length):=C5w hY2 (C69 hpS)
   rw [C73,<- C6j,show k+(S-ys.length)=S-1 by omega] at t1
   omega
  refine T7 mb' hbc (by omega) (by omega) ?_
  intro A1 n1 c1 h1 l1 k1 M1
  refine ⟨_,_,_,rfl,?_⟩
  have hn1:n1=S:=by
   have q1:=M1.len_le (by decide) hV1
   have q2:=M1.lt (by decide)
   by_cases hc:n1=S
   ·exact hc
   ·have:=D3 (B:=b64) (by decide) (show n1<=S-1 by omega)
    have:=D7 (B:=b64) (by decide) (S-1)
    omega
  subst hn1
  refine T7 (ma.mono l1) ha (by omega) (by omega) ?_
  intro A2 n2 c2 h2 l2 k2 M2
  refine ⟨_,_,_,rfl,?_⟩
  have hn2:n2<=an+(1+(n1-ys.length)):=M2.len_le (by decide) (by
   have t1:x*2^sh<b64^an*2^sh:=C6k hxlt hpsh
   have t2:(2:Int)^sh<=b64^(1+(n1-ys.length)):=by
    rw [hpow,C6j]
    apply C5w _ (C69 hpS)
    have:=D3 (B:=2) (by decide) (show s<=64 by omega)
    have e:(2:Int)^64=18446744073709551616:=by decide
    show (2:Int)^s<=b64^1
    rw [C6e,Int.pow_zero]
    show (2:Int)^s<=1*18446744073709551616
    omega
   have t3:b64^an*2^sh<=b64^an*b64^(1+(n1-ys.length)):=C5u t2 (C69 (D7 (by decide) an))
   rw [C6j b64 an]
   omega)
  have hn2':0<n2:=by
   rcases Nat.eq_zero_or_pos n2 with h0|h0
   ·have:=(M2.len_zero (by decide)).2 h0
    rcases Int.mul_eq_zero.1 this with h3|h3<;>omega
   ·exact h0
  have e5:B5 ((n2:Int)+(n1:Int))=((n2+n1:Nat):Int):=by rw [B7 (by omega) (by omega)];omega
  rw [e5]
  refine J9 P6 (by omega) (by omega) (by omega) ?_
  intro bq hbq
  rw [C5r]
  refine ⟨_,_,_,rfl,?_⟩
  refine B6 (fun h1=>by omega) (fun _=>?_)
  refine A50 (D:=x*2^sh) (V:=val b64 ys*2^sh) (sh:=sh) (S:=n1) e2 e4 (by omega) (by omega) (by omega) hbq M2 k2 hn2' (by omega) (M1.mono l2) k1 hV2 rfl rfl ?_
  intro A3 n3 c3 A4 n4 c4 h4 l4 k3 k4 M3 M4
  exact hK _ _ _ _ _ _ _ (B0 l1 (B0 l2 l4)) k3 k4 M3 M4
theorem S7{x y:Int}{an bn:Nat}(ma:Mw h A an x)(mb:Mw h B bn y)(ha:an<=ac)(hbc:bn<=bc)(hy:y≠0)(hl:an<=800000000)(hl2:bn<=100000000)
 (hK:∀ A1 m1 c1 A2 m2 c2 h',h.le h'->m1<=c1->m2<=c2->Mw h' A1 m1 (x/y)->Mw h' A2 m2 (x%y)->K (.tuple #[.slice A1 m1 c1,.slice A2 m2 c2]) h'):FCall prog O8 #[.slice A an ac,.slice B bn bc] h K:=by
 refine Uv _ _ _ _ _ _ ?_
 unfold Qr
 have simple:FCall prog J2 #[.slice A an ac,.slice B bn bc] h (fun r hp=>∃ (t22aA:Option Addr) (t22an:Nat) (t22ac:Nat) (t22bA:Option Addr) (t22bn:Nat) (t22bc:Nat),r= .tuple #[.slice t22aA t22an t22ac,.slice t22bA t22bn t22bc]/\K (.tuple #[.slice t22aA t22an t22ac,.slice t22bA t22bn t22bc]) hp):=by
  refine Ek ma mb ha hbc hy (by omega) (by omega) ?_
  intro A1 m1 c1 A2 m2 c2 h' l k1 k2 M1 M2
  exact ⟨_,_,_,_,_,_,rfl,hK _ _ _ _ _ _ _ l k1 k2 M1 M2⟩
 refine B6 (fun h1=>B6 (fun h2=>?_) (fun _=>simple)) (fun _=>simple)
 rw [B7 (by omega) (by omega)] at h2
 refine Pi ma mb ha hbc hl hl2 (by omega) (by omega) ?_
 intro A1 m1 c1 A2 m2 c2 h' l k1 k2 M1 M2
 exact ⟨_,_,_,_,_,_,rfl,hK _ _ _ _ _ _ _ l k1 k2 M1 M2⟩
end
def TZ(x k:Nat):Prop:=∃ m,x=2^k*(2*m+1)
theorem TZ.ex:∀ {x:Nat},x≠0->∃ k,TZ x k:=by
 intro x
 induction x using Nat.strongRecOn with
 | _ x ih=>
  intro h
  rcases Nat.mod_two_eq_zero_or_one x with h0|h0
  ·obtain ⟨k,m,hm⟩:=ih (x/2) (by omega) (by omega)
   refine ⟨k+1,m,?_⟩
   rw [Nat.pow_succ,C7m (2^k),C7z,<- hm];omega
  ·exact ⟨0,x/2,by omega⟩
theorem TZ.lt{x k n:Nat}(h:TZ x k)(hx:x<2^n):k<n:=by
 obtain ⟨m,rfl⟩:=h
 have h1:2^k*1<=2^k*(2*m+1):=Nat.mul_le_mul_left _ (by omega)
 exact (Nat.pow_lt_pow_iff_right (a:=2) (by decide)).1 (by omega)
theorem B0c{a u v:Nat}:(2^a*u) ||| (2^a*v)=2^a*(u ||| v):=by
 apply Nat.eq_of_testBit_eq
 intro i
 simp only [Nat.testBit_or,Nat.testBit_two_pow_mul,Bool.and_or_distrib_left]
theorem B6o{u v:Nat}(h:u%2=1\/v%2=1):(u ||| v)%2=1:=by simpa using h
theorem TZ.or'{x y a b:Nat}(hx:TZ x a)(hy:TZ y b)(hab:a<=b):TZ (x ||| y) a/\TZ (y ||| x) a:=by
 obtain ⟨m,rfl⟩:=hx
 obtain ⟨n,rfl⟩:=hy
 obtain ⟨d,rfl⟩:∃ d,b=a+d:=⟨b-a,by omega⟩
 rw [C7y,C7z,B0c,B0c]
 have h1:=B6o (u:=2*m+1) (v:=2^d*(2*n+1)) (.inl (by omega))
 have h2:=B6o (u:=2^d*(2*n+1)) (v:=2*m+1) (.inr (by omega))
 exact ⟨⟨_/2,by rw [<- C7o (_ ||| _) 2,h1]⟩,⟨_/2,by rw [<- C7o (_ ||| _) 2,h2]⟩⟩
theorem TZ.or{x y a b:Nat}(hx:TZ x a)(hy:TZ y b):TZ (x ||| y) (min a b):=by
 by_cases h:a<=b
 ·rw [C64 h];exact (hx.or' hy h).1
 ·rw [C85 (by omega)];exact (hy.or' hx (by omega)).2
theorem TZ.bit{x k:Nat}(h:TZ x k)(hx:x<2^64):x &&& (2^64-x)=2^k:=by
 obtain ⟨m,rfl⟩:=h
 have hp:0<2^k:=C74 (by decide)
 have e1:2^k*(2*m+1)=2^k*(2*m)+(2^k-1)+1:=by rw [Nat.mul_add,C6n];omega
 apply Nat.eq_of_testBit_eq
 intro i
 rw [Nat.testBit_and]
 have e2:(2^64-2^k*(2*m+1)).testBit i=(decide (i<64) && !(2^k*(2*m)+(2^k-1)).testBit i):=by
  rw [e1];exact Nat.testBit_two_pow_sub_succ (by omega) i
 rw [e2,Nat.testBit_two_pow_mul_add _ (by omega),Nat.testBit_two_pow_mul,Nat.testBit_two_pow]
 by_cases h1:i<k
 ·simp [h1,show ¬ i>=k by omega,show ¬ k=i by omega]
 ·by_cases h2:i=k
  ·subst h2
   have h64:i<64:=TZ.lt ⟨m,rfl⟩ hx
   simp [h64,Nat.testBit_zero]
  ·obtain ⟨d,hd⟩:∃ d,i-k=d+1:=⟨i-k-1,by omega⟩
   rw [if_neg h1,hd,Nat.testBit_succ,Nat.testBit_succ,show (2*m+1)/2=m by omega,show 2*m/2=m by omega]
   simp only [show ¬ k=i by omega,decide_false]
   cases m.testBit d<;>simp
theorem Yi{o k:Nat}(h:o%2=1):Nat.Coprime (2^k) o:=Nat.Coprime.pow_left k (by unfold Nat.Coprime;rw [Nat.gcd_rec,h];rfl)
theorem B98{x y a b m:Nat}(hx:x=2^a*(2*m+1))(hy:TZ y b):C7b x y=2^(min a b)*C7b (2*m+1) y:=by
 obtain ⟨n,rfl⟩:=hy
 subst hx
 have e0:C7b (2*m+1) (2^b*(2*n+1))=C7b (2*m+1) (2*n+1):=C6q (2*n+1) (Yi (by omega))
 rw [e0]
 by_cases h:a<=b
 ·obtain ⟨d,rfl⟩:∃ d,b=a+d:=⟨b-a,by omega⟩
  rw [C64 h,C7y,C7z,Nat.gcd_mul_left,C6q _ (Yi (by omega))]
 ·obtain ⟨d,rfl⟩:∃ d,a=b+d:=⟨a-b,by omega⟩
  rw [C85 (by omega),C7y,C7z,Nat.gcd_mul_left,Nat.Coprime.gcd_mul_left_cancel _ (Yi (by omega))]
def A1e(k:Nat):Nat:=(2^k*285870213051353865%18446744073709551616)/2^58
def Gtz(h:Heap):Prop:=∀ k,k<64->h.cell? (Addr.add ⟨3,0,none⟩ (A1e k*1))=some (Y k)
theorem Gtz.mono{h h':Heap}(g:Gtz h)(l:h.le h'):Gtz h':=fun k hk=>B9 l (g k hk)
section
variable {h g:Heap} {K:VP} {A B:Option Addr} {ac bc:Nat}
theorem Kg{x k:Nat}(gl:Gtz h)(tz:TZ x k)(hx:x<18446744073709551616)(hK:K (I k) h):FCall prog M0 #[U x] h K:=by
 have hk:=tz.lt (n:=64) hx
 have hx0:x≠0:=by
  obtain ⟨m,rfl⟩:=tz
  have:0<2^k:=C74 (by decide)
  have:=Nat.mul_pos this (show 0<2*m+1 by omega)
  omega
 refine La _ ?_
 unfold Gx
 refine E5 (fun e=>by omega) (fun _=>?_)
 have e1:C0 (0-(x:Int))=((2^64-x:Nat):Int):=by
  rw [F2];omega
 have e2:Pl .u64 (x:Int) ((2^64-x:Nat):Int)=((2^k:Nat):Int):=by
  rw [B25 (by omega) (by omega),C5r,C5r,tz.bit hx]
 have e3:C83 (C0 (((2^k:Nat):Int)*285870213051353865)) (2^(min ((58:Int)).toNat 64))=((A1e k:Nat):Int):=by
  show C83 _ (2^(min 58 64))=_
  rw [B4r (by decide),F2]
  unfold A1e
  rw [C7k,C88,C6f]
  rfl
 rw [e1,e2,e3,C5r]
 have hi:A1e k<64:=by
  unfold A1e
  have:(2^k*285870213051353865)%18446744073709551616<18446744073709551616:=Nat.mod_lt _ (by decide)
  exact Nat.div_lt_of_lt_mul (by omega)
 refine ⟨⟨by omega,by omega⟩,_,gl k hk,?_⟩
 rw [B7 (by omega) (by omega)]
 exact hK
theorem A2a{x y:Nat}(gl:Gtz h)(hx:x<18446744073709551616)(hy:y<18446744073709551616)(hK:K (U (C7b x y:Nat)) h):FCall prog Oz #[U x,U y] h K:=by
 refine A56 _ _ ?_
 unfold A6r
 refine E5 (fun e=>?_) (fun e=>?_)
 ·obtain rfl:x=0:=by omega
  rw [A4z (by omega) (by omega)]
  simpa using hK
 refine E5 (fun e'=>?_) (fun e'=>?_)
 ·obtain rfl:y=0:=by omega
  rw [A4z (by omega) (by omega)]
  simpa using hK
 obtain ⟨a,ta⟩:=TZ.ex (x:=x) (by omega)
 obtain ⟨b,tb⟩:=TZ.ex (x:=y) (by omega)
 have ha:=ta.lt (n:=64) hx
 have hb:=tb.lt (n:=64) hy
 rw [A4z (by omega) (by omega),C5r,C5r]
 have hxy:x ||| y<18446744073709551616:=Nat.or_lt_two_pow (n:=64) hx hy
 refine Kg gl (ta.or tb) hxy ⟨_,rfl,?_⟩
 refine Kg gl ta hx ⟨_,rfl,?_⟩
 refine B6 (fun h1=>by omega) (fun _=>?_)
 obtain ⟨m,hm⟩:=ta
 have hg:=B98 hm tb
 have e1:C83 (x:Int) (2^(min ((a:Int)).toNat 64))=((2*m+1:Nat):Int):=by
  rw [C5r,B4r (by omega),show ((2:Int)^a)=((2^a:Nat):Int) by simp,<- C7k,hm,Nat.mul_div_cancel_left _ (C74 (by decide))]
 rw [e1]
 have hm64:2*m+1<=x:=by
  rw [hm];exact Nat.le_mul_of_pos_left _ (C74 (by decide))
 refine ⟨fun l hp=>hp=h/\∃ u v:Nat,l=[U u,U v]/\u%2=1/\u<18446744073709551616/\v<18446744073709551616/\C7b u v=C7b (2*m+1) y,fun l _=>(iAt l 0+iAt l 1).toNat,⟨rfl,2*m+1,y,rfl,by omega,by omega,hy,rfl⟩,?_⟩
 rintro x1 y1 hp2 ⟨rfl,u,v,hl,hu,hu2,hv2,huv⟩
 simp only [C62,C6b,and_true,true_and] at hl
 obtain ⟨rfl,rfl⟩:=hl
 refine G9 (fun h1=>?_) (fun h1=>?_)
 ·obtain ⟨c,tc⟩:=TZ.ex (x:=v) (by omega)
  have hc:=tc.lt (n:=64) hv2
  refine Kg gl tc hv2 ⟨_,rfl,?_⟩
  refine B6 (fun h1=>by omega) (fun _=>?_)
  obtain ⟨n,hn⟩:=tc
  have e2:C83 (v:Int) (2^(min ((c:Int)).toNat 64))=((2*n+1:Nat):Int):=by
   rw [C5r,B4r (by omega),show ((2:Int)^c)=((2^c:Nat):Int) by simp,<- C7k,hn,Nat.mul_div_cancel_left _ (C74 (by decide))]
  have hn64:2*n+1<=v:=by
   rw [hn];exact Nat.le_mul_of_pos_left _ (C74 (by decide))
  have hg2:C7b u (2*n+1)=C7b u v:=by
   rw [hn,C6q _ (Yi hu)]
  rw [e2]
  refine B6 (fun h2=>?_) (fun h2=>?_)
  ·have e3:C0 ((u:Int)-((2*n+1:Nat):Int))=((u-(2*n+1):Nat):Int):=by rw [C2 (by omega) (by omega)];omega
   rw [e3]
   refine ⟨⟨rfl,_,_,rfl,by omega,by omega,by omega,?_⟩,?_⟩
   ·rw [Nat.gcd_sub_self_right (by omega),Nat.gcd_comm,hg2,huv]
   ·simp only [iAt,C5x,C5y];omega
  ·have e3:C0 (((2*n+1:Nat):Int)-(u:Int))=((2*n+1-u:Nat):Int):=by rw [C2 (by omega) (by omega)];omega
   rw [e3]
   refine ⟨⟨rfl,_,_,rfl,by omega,by omega,by omega,?_⟩,?_⟩
   ·rw [Nat.gcd_sub_self_right (by omega),hg2,huv]
   ·simp only [iAt,C5x,C5y];omega
 ·refine B6 (fun h1=>by omega) (fun _=>?_)
  obtain rfl:v=0:=by omega
  rw [Nat.gcd_zero_right] at huv
  rw [C5r,C64 (show min a b<=64 by omega)]
  have e4:(u:Int)*2^(min a b)=((C7b x y:Nat):Int):=by
   rw [hg,<- huv,C6f,C68];simp
  have hle:C7b x y<=x:=Nat.le_of_dvd (by omega) (Nat.gcd_dvd_left x y)
  rw [e4,C2 (by omega) (by omega)]
  exact hK
end
theorem A9d{xs:List Int}(d:Dig b64 xs){k s:Nat}(hl:xs.length<=k+2)(hs:s<=64):val b64 xs/(b64^k*2^(64-s))=xs.getD (k+1) 0*2^s+xs.getD k 0/2^(64-s):=by
 have h1:=C5 b64 xs (k+1)
 have h2:=C5 b64 xs k
 rw [C5v (show xs.length<=k+1+1 by omega)] at h1
 have hp:=D7 (B:=b64) (by decide) k
 have hpp:0<(2:Int)^(64-s):=C6o (by decide)
 have hsp:=Ab (s:=s) hs
 have h3:=C8 (by decide) (d.take k)
 have h4:=L6 (by decide) (d.take k)
 have h5:=D3 (B:=b64) (by decide) (show (xs.take k).length<=k by rw [C5z];omega)
 rw [<- Int.ediv_ediv_of_nonneg (C69 hp)]
 have e1:val b64 xs/b64^k=xs.getD k 0+18446744073709551616*xs.getD (k+1) 0:=by
  refine (A4v (a:=val b64 (xs.take k)) ?_ h3 (by omega)).1
  rw [h1,h2,C6e]
  show _=val b64 (xs.take k)+_+b64^k*18446744073709551616*_
  grind
 rw [e1,<- hsp,C68 (2^s),C73,Int.add_mul_ediv_left _ _ (by omega),C68 (2^s)]
 omega
section
variable {h g:Heap} {K:VP} {A B:Option Addr} {ac bc:Nat}
def B9z(a b u0 u1 v0 v1:Int)(odd:Bool):Prop:=(0<=u0/\u0<18446744073709551616)/\(0<=u1/\u1<18446744073709551616)/\(0<=v0/\v0<18446744073709551616)/\(0<=v1/\v1<18446744073709551616)/\(v0≠0->Leh a b u0 v0 u1 v1 (Km a b u0 v0 odd) (Kl a b u1 v1 odd))
theorem B4q{a b F S W t20 t26 t33:Int}(hF:F=bor .u64 (C0 (t26*2^(min (C0 t20).toNat 64))) (C83 t33 (2^(min (C0 ((64:Int)-(C0 t20))).toNat 64))))(hW:0<W)(hFa:F=a/W)(hSb:S=b/W)(hb0:0<=b)(hba:b<=a)(hF64:F<18446744073709551616)
 (hK:∀ u0 u1 v0 v1 odd,B9z a b u0 u1 v0 v1 odd->K (.agg #[U u0,U u1,U v0,U v1,.bool odd]) h):Ij prog K t20 t26 t33 S h:=by
 have da:=C61 a W
 have db:=C61 b W
 have da1:=C6a a (b:=W) (by omega)
 have da2:=C60 a hW
 have db1:=C6a b (b:=W) (by omega)
 have db2:=C60 b hW
 have hS0:0<=S:=by rw [hSb];exact C8b hb0 (by omega)
 have hSF:S<=F:=by rw [hSb,hFa];exact Int.ediv_le_ediv hW hba
 unfold Ij
 rw [<- hF]
 refine ⟨fun l hp=>hp=h/\∃ (first second u2 v2 u0 u1 v0 v1:Int) (odd:Bool),l=[U first,U second,U u2,U v2,U u0,U u1,U v0,U v1,.bool odd]/\LS F S first second u0 v0 u1 v1 u2 v2 odd/\B9z a b u0 u1 v0 v1 odd/\u2<=F/\v2<=(if F=0 then 1 else F),fun l _=>(iAt l 1).toNat,⟨rfl,_,_,_,_,_,_,_,_,_,rfl,LS.init hS0 hSF,⟨by omega,by omega,by omega,by omega,fun e=>absurd rfl e⟩,by omega,by split<;>omega⟩,?_⟩
 rintro first second u2 v2 u0 u1 v0 v1 odd hp ⟨rfl,first',second',u2',v2',u0',u1',v0',v1',odd',hl,ls,st,hu2,hv2⟩
 simp only [C62,C6b,Value.bool.injEq,and_true,true_and] at hl
 obtain ⟨rfl,rfl,rfl,rfl,rfl,rfl,rfl,rfl,rfl⟩:=hl
 have hpos:=ls.v2pos
 have hord:=ls.ord
 have hFe:=ls.hF
 refine B6 (fun h1=>?_) (fun _=>hK _ _ _ _ _ st)
 have hs1:1<=second:=by omega
 have hb2:=ls.bound2 hs1
 have hfF:first<=F:=by
  have t1:1*first<=v2*first:=C5w (by omega) (by omega)
  have t2:=C6g (show 0<=v1 by omega) hord.1
  omega
 rw [C2 (n:=first-second) (by omega) (by omega),C2 (n:=v1+v2) (by omega) (by omega)]
 refine B6 (fun h2=>?_) (fun _=>hK _ _ _ _ _ st)
 refine B6 (fun e=>by omega) (fun _=>?_)
 refine B6 (fun e=>by omega) (fun _=>?_)
 rw [C76 (by omega),C77 (by omega)]
 have ls2:=ls.step (by omega) (by omega)
 have hb3:=ls2.bound hs1
 have hq0:0<=first/second:=C8b (by omega) (by omega)
 have hq1:first/second<=first:=Int.ediv_le_self _ (by omega)
 have hqu:=C6g hq0 (show 0<=u2 by omega)
 have hqv:=C6g hq0 (show 0<=v2 by omega)
 rw [C2 (n:=first/second) (by omega) (by omega),C2 (n:=first/second*u2) (by omega) (by omega),C2 (n:=first/second*v2) (by omega) (by omega),C2 (n:=u1+first/second*u2) (by omega) (by omega),C2 (n:=v1+first/second*v2) (by omega) (by omega)]
 refine ⟨⟨rfl,_,_,_,_,_,_,_,_,_,rfl,ls2,⟨⟨by omega,st.2.1.2⟩,⟨by omega,by omega⟩,⟨by omega,st.2.2.2.1.2⟩,⟨by omega,by omega⟩,fun e=>ls2.leh e hW (al:=a%W) (bl:=b%W) ?_ ?_ ⟨da1,da2⟩ ⟨db1,db2⟩⟩,by omega,by split<;>omega⟩,?_⟩
 ·rw [hFa,C68];omega
 ·rw [hSb,C68];omega
 ·have:=C60 first (show 0<second by omega)
  have:=C6a first (show second≠0 by omega)
  simp only [iAt,C5y,C5x];omega
set_option maxHeartbeats 1000000 in
theorem Yr{a b:Int}{an bn:Nat}(ma:Mw h A an a)(mb:Mw h B bn b)(hba:b<=a)(hb2:2<=bn)(hl:an<=1000000000)
 (hK:∀ u0 u1 v0 v1 odd,B9z a b u0 u1 v0 v1 odd->K (.agg #[U u0,U u1,U v0,U v1,.bool odd]) h):FCall prog Ks #[.slice A an ac,.slice B bn bc] h K:=by
 have hb0:=mb.nonneg (by decide)
 have hbn:bn<=an:=mb.len_le (by decide) (C82 hba (ma.lt (by decide)))
 obtain ⟨k,rfl⟩:∃ k,an=k+2:=⟨an-2,by omega⟩
 obtain ⟨xs,hxl,sx,dx,nx,rfl⟩:=ma
 obtain ⟨ys,hyl,sy,dy,ny,rfl⟩:=mb
 refine A2q _ _ _ _ _ _ ?_
 unfold A2r
 have e1:B5 (((k+2:Nat):Int)-1)=((k+1:Nat):Int):=by rw [B7 (by omega) (by omega)];omega
 have e2:B5 (((k+2:Nat):Int)-2)=(k:Int):=by rw [B7 (by omega) (by omega)];omega
 simp only [e1,e2]
 have gt:=N6 dx (k+1)
 have gt2:=N6 dx k
 have ht0:=A1h (m:=k+1) hxl.symm nx
 obtain ⟨t,ht⟩:∃ t:Nat,xs.getD (k+1) 0=t:=⟨(xs.getD (k+1) 0).toNat,by omega⟩
 rw [hxl]
 refine sx.load rfl (by omega) (by omega) ?_
 rw [C5r,ht]
 rw [ht] at gt ht0
 refine R2 (by omega) ⟨_,rfl,?_⟩
 obtain ⟨s,hs⟩:∃ s,s=64-N8 t:=⟨_,rfl⟩
 rw [<- hs]
 obtain ⟨hs64,hY1,hY2⟩:=Wy dx hxl.symm ht (by omega) hs
 refine sx.load rfl (by omega) (by omega) ?_
 simp only [C5r,ht]
 have es:C0 (s:Int)=s:=C2 (by omega) (by omega)
 have es2:C0 (64-(s:Int))=((64-s:Nat):Int):=by rw [C2 (by omega) (by omega)];omega
 refine B6 (fun e=>by rw [es] at e;omega) (fun _=>?_)
 refine sx.load rfl (by omega) (by omega) ?_
 simp only [C5r]
 refine B6 (fun e=>by rw [es,es2] at e;omega) (fun _=>?_)
 have hps:0<(2:Int)^s:=C6o (by decide)
 have hpp:0<(2:Int)^(64-s):=C6o (by decide)
 have hsp:=Ab (s:=s) (by omega)
 have hpk:=D7 (B:=b64) (by decide) k
 have hW:0<b64^k*2^(64-s):=Int.mul_pos hpk hpp
 have hFa:=A9d dx (k:=k) (s:=s) (by omega) (by omega)
 have hSb:=A9d dy (k:=k) (s:=s) (by omega) (by omega)
 have hFlt:val b64 xs/(b64^k*2^(64-s))<18446744073709551616:=by
  apply C6l hW
  have t1:18446744073709551616*(b64^k*2^(64-s))*2^s=18446744073709551616*b64^k*(2^s*2^(64-s)):=by grind
  rw [hsp] at t1
  have t2:b64^(k+1+1)=18446744073709551616*b64^k*18446744073709551616:=by
   rw [C6e,C6e]
   show b64^k*18446744073709551616*18446744073709551616=_
   grind
  rw [t2,<- t1] at hY1
  exact Int.lt_of_mul_lt_mul_right hY1 (by omega)
 have hSF:val b64 ys/(b64^k*2^(64-s))<=val b64 xs/(b64^k*2^(64-s)):=Int.ediv_le_ediv hW hba
 have q1:∀ z:Int,0<=z/\z<18446744073709551616->0<=z/2^(64-s)/\z/2^(64-s)<2^s:=fun z hz=>
  ⟨C8b hz.1 (by omega),C6l hpp (by rw [hsp];exact hz.2)⟩
 have hor:∀ u z:Int,0<=u->0<=z/\z<18446744073709551616->u*2^s+z/2^(64-s)<18446744073709551616->bor .u64 (C0 (u*2^(min (C0 (s:Int)).toNat 64))) (C83 z (2^(min (C0 (64-C0 (s:Int))).toNat 64)))=u*2^s+z/2^(64-s):=by
  intro u z hu hz huz
  have:=q1 z hz
  have:=C6g hu (C69 hps)
  rw [es,es2,C5r,C5r,B4r (by omega),C64 (show s<=64 by omega),C2 (by omega) (by omega),A2k hu (by omega) huz]
 have gy:=N6 dy (k+1)
 have gy2:=N6 dy k
 rw [ht] at hFa
 refine ⟨fun l hp=>hp=h/\l=[U (val b64 ys/(b64^k*2^(64-s)))],?_,?_⟩
 ·refine E5 (fun e=>?_) (fun e=>?_)
  ·rw [hyl]
   refine sy.load rfl (by omega) (by omega) ?_
   simp only [C5r]
   refine B6 (fun e=>by rw [es] at e;omega) (fun _=>?_)
   refine sy.load rfl (by omega) (by omega) ?_
   simp only [C5r]
   refine B6 (fun e=>by rw [es,es2] at e;omega) (fun _=>?_)
   rw [hor _ _ gy.1 gy2 (by omega),hSb]
   first|exact ⟨rfl,rfl⟩|exact ⟨trivial,rfl⟩
  ·refine E5 (fun e=>?_) (fun e=>?_)
   ·rw [hyl]
    refine sy.load rfl (by omega) (by omega) ?_
    simp only [C5r]
    refine B6 (fun e=>by rw [es,es2] at e;omega) (fun _=>?_)
    have:ys.getD (k+1) 0=0:=by simp [C81,C7t (show ys.length<=k+1 by omega)]
    rw [this,Int.zero_mul,Int.zero_add] at hSb
    rw [es,es2,C5r,B4r (by omega),hSb]
    first|exact ⟨rfl,rfl⟩|exact ⟨trivial,rfl⟩
   ·have t1:ys.getD (k+1) 0=0:=by simp [C81,C7t (show ys.length<=k+1 by omega)]
    have t2:ys.getD k 0=0:=by simp [C81,C7t (show ys.length<=k by omega)]
    rw [t1,t2,Int.zero_mul,Int.zero_add,Int.zero_ediv] at hSb
    rw [hSb]
    exact ⟨rfl,rfl⟩
 ·rintro second hp1 ⟨rfl,hl2⟩
  simp only [C62,C6b,and_true,true_and] at hl2
  subst hl2
  exact B4q (F:=val b64 xs/(b64^k*2^(64-s))) (by rw [hor _ _ (by omega) gt2 (by omega),hFa]) hW rfl rfl hb0 hba hFlt hK
end
theorem Win.swap{k k':IntKind}{h g1 g:Heap}{ba bb:Nat}{e e':TypeId}{A B:Option Addr}{pa qa pb qb:List Value}{us bs:List Int}(wa:Win k h g1 ba e A pa us qa)(wb:Win k' g1 g bb e' B pb bs qb):∃ g2,Win k' h g2 bb e' B pb bs qb/\Win k g2 g ba e A pa us qa:=by
 have hne:ba≠bb:=by
  rintro rfl
  have:=wa.free
  rw [wb.eq,C3] at this
  cases this
 have hga:g ba=none:=by
  have:=wa.free
  rwa [wb.eq,B8 _ _ hne] at this
 refine ⟨g.put ba (.cells (pa++us.map (C6c k)++qa).toArray e),⟨?_,?_,wb.at_⟩,⟨hga,rfl,wa.at_⟩⟩
 ·rw [B8 _ _ hne.symm];exact wb.free
 ·rw [wa.eq,wb.eq];exact Heap.put_comm _ _ _ hne.symm
theorem Yn{z y c:Int}(hz:0<=z/\z<18446744073709551616)(hy:0<=y/\y<18446744073709551616)(hc:0<=c/\c<=1):(z-y-c)%18446744073709551616=z-y-c+18446744073709551616*(if z-y-c<0 then 1 else 0):=by
 split<;>omega
theorem A23(z:Int):z%18446744073709551616=z-18446744073709551616*(z/18446744073709551616):=by omega
theorem Mm{x y c:Int}(hx:0<=x/\x<18446744073709551616)(hy:0<=y/\y<18446744073709551616)(hc:0<=c/\c<18446744073709551616):0<=(x*y+c)/18446744073709551616/\(x*y+c)/18446744073709551616<18446744073709551616:=by
 have h0:=C6g hx.1 hy.1
 have h1:x*y<=18446744073709551615*y:=C5w (by omega) hy.1
 omega
theorem pin{v w B m:Int}(h:v=w+B*m)(hv:0<=v/\v<B)(hw:0<=w/\w<B):v=w:=by
 have hB:0<B:=by omega
 by_cases h0:m <= -1
 ·have:=C5u h0 (C69 hB);omega
 ·by_cases h1:1<=m
  ·have:=C5u h1 (C69 hB);omega
  ·obtain rfl:m=0:=by omega
   omega
section
variable {h g g1:Heap} {K:VP} {A B:Option Addr} {ac bc an bn ba bb:Nat} {e:TypeId} {qa qb:List Value}
set_option maxHeartbeats 1000000 in
theorem A85{us bs:List Int}{u0 u1 v0 v1:Int}{odd:Bool}(wa:Win .u64 h g1 ba e A [] us qa)(wb:Win .u64 g1 g bb e B [] bs qb)(ha:an=us.length)(hb:bn=bs.length)(hab:us.length=bs.length)(da:Dig b64 us)(db:Dig b64 bs)(hl:us.length<=1000000000)(hu0:0<=u0/\u0<18446744073709551616)(hu1:0<=u1/\u1<18446744073709551616)(hv0:0<=v0/\v0<18446744073709551616)(hv1:0<=v1/\v1<18446744073709551616)
 (hX0:0<=Km (val b64 us) (val b64 bs) u0 v0 odd/\Km (val b64 us) (val b64 bs) u0 v0 odd<b64^us.length) (hX1:0<=Kl (val b64 us) (val b64 bs) u1 v1 odd/\Kl (val b64 us) (val b64 bs) u1 v1 odd<b64^us.length)
 (hK:∀ us' bs' h' g1',us'.length=us.length->bs'.length=us.length->Dig b64 us'->Dig b64 bs'->val b64 us'=Km (val b64 us) (val b64 bs) u0 v0 odd->val b64 bs'=Kl (val b64 us) (val b64 bs) u1 v1 odd->Win .u64 h' g1' ba e A [] us' qa->Win .u64 g1' g bb e B [] bs' qb->K (.tuple #[]) h'):
 FCall prog Zo #[.agg #[U u0,U u1,U v0,U v1,.bool odd],.slice A an ac,.slice B bn bc] h K:=by
 subst ha hb
 refine B2m _ _ _ _ _ _ _ _ _ _ _ ?_
 unfold B7i
 refine ⟨fun l hp=>∃ (k:Nat) (cP cQ cR cT bo lo:Int) (xs ys:List Int) (g1:Heap),l=[U cP,U cQ,U cR,U cT,U bo,U lo,I k]/\k<=us.length/\xs.length=us.length/\ys.length=us.length/\Dig b64 xs/\Dig b64 ys/\(0<=cP/\cP<18446744073709551616)/\(0<=cQ/\cQ<18446744073709551616)/\(0<=cR/\cR<18446744073709551616)/\(0<=cT/\cT<18446744073709551616)/\(0<=bo/\bo<=1)/\(0<=lo/\lo<=1)/\Win .u64 hp g1 ba e A [] xs qa/\Win .u64 g1 g bb e B [] ys qb/\xs.drop k=us.drop k/\ys.drop k=bs.drop k/\
  val b64 (xs.take k)=Km (val b64 (us.take k)) (val b64 (bs.take k)) u0 v0 odd+b64^k*((if odd then cQ-cP else cP-cQ)+bo)/\val b64 (ys.take k)=Kl (val b64 (us.take k)) (val b64 (bs.take k)) u1 v1 odd+b64^k*((if odd then cT-cR else cR-cT)+lo),fun l _=>us.length-(iAt l 6).toNat,⟨0,0,0,0,0,0,0,us,bs,g1,rfl,by omega,rfl,hab.symm,da,db,by omega,by omega,by omega,by omega,by omega,by omega,wa,wb,rfl,rfl,by simp [val,Km],by simp [val,Kl]⟩,?_⟩
 rintro cP cQ cR cT bo lo i hp ⟨k,cP',cQ',cR',cT',bo',lo',xs,ys,g1,hli,hk,hxl,hyl,dx,dy,hP,hQ,hR,hT,hbo,hlo,wx,wy,hdx,hdy,hvx,hvy⟩
 simp only [C62,C6b,and_true,true_and] at hli
 obtain ⟨rfl,rfl,rfl,rfl,rfl,rfl,rfl⟩:=hli
 refine B6 (fun h1=>?_) (fun h1=>?_)
 ·have gx:=N6 dx k
  have gy:=N6 dy k
  have hxx:=E6 hdx
  have hyy:=E6 hdy
  have vx:=C5 b64 us k
  have vy:=C5 b64 bs k
  obtain ⟨g2,wy2,wx2⟩:=wx.swap wy
  refine wx.sl.load hxl.symm (by omega) (by omega) ?_
  refine wy2.sl.load (by omega) (by omega) (by omega) ?_
  simp only [C5r]
  obtain ⟨aA,hA,_⟩:=SlV.at wx.sl (i:=k) (by simp;omega)
  obtain ⟨aB,hB,_⟩:=SlV.at wy.sl (i:=k) (by simp;omega)
  generalize hx0:xs.getD k 0=x at *
  generalize hy0:ys.getD k 0=y at *
  refine S5 gx hu0 hP ⟨_,_,rfl,?_⟩
  refine S5 gy hv0 hQ ⟨_,_,rfl,?_⟩
  refine S5 gy hv1 hR ⟨_,_,rfl,?_⟩
  refine S5 gx hu1 hT ⟨_,_,rfl,?_⟩
  have bP:=Mm gx hu0 hP
  have bQ:=Mm gy hv0 hQ
  have bR:=Mm gy hv1 hR
  have bT:=Mm gx hu1 hT
  have mP:=Ed (x*u0+cP)
  have mQ:=Ed (y*v0+cQ)
  have mR:=Ed (y*v1+cR)
  have mT:=Ed (x*u1+cT)
  have kP:=A23 (x*u0+cP)
  have kQ:=A23 (y*v0+cQ)
  have kR:=A23 (y*v1+cR)
  have kT:=A23 (x*u1+cT)
  have ek:B5 ((k:Int)+1)=((k+1:Nat):Int):=by rw [B7 (by omega) (by omega)];omega
  rw [ek]
  generalize (x*u0+cP)/18446744073709551616=cP2 at *
  generalize (y*v0+cQ)/18446744073709551616=cQ2 at *
  generalize (y*v1+cR)/18446744073709551616=cR2 at *
  generalize (x*u1+cT)/18446744073709551616=cT2 at *
  generalize (x*u0+cP)%18446744073709551616=p at *
  generalize (y*v0+cQ)%18446744073709551616=q at *
  generalize (y*v1+cR)%18446744073709551616=r at *
  generalize (x*u1+cT)%18446744073709551616=t at *
  have hpk:b64^(k+1)=b64^k*18446744073709551616:=C6e _ _
  cases odd with
  | true=>
   refine Br.of (fun _=>?_) (fun e=>by cases e)
   refine Fg mP mQ hbo ⟨_,_,rfl,aA,hA,by omega,by omega,wx.storeN F7 hA (by omega) ?_⟩
   intro h2 w2
   refine Fg mR mT hlo ⟨_,_,rfl,aB,hB,by omega,by omega,?_⟩
   obtain ⟨g3,wy3,wx3⟩:=w2.swap wy
   refine wy3.storeN F7 hB (by omega) ?_
   intro h4 w4
   obtain ⟨g5,wx5,wy5⟩:=w4.swap wx3
   refine ⟨⟨k+1,_,_,_,_,_,_,_,_,g5,rfl,by omega,by simpa using hxl,by simpa using hyl,dx.set (Ed _),dy.set (Ed _),bP,bQ,bR,bT,by split<;>omega,by split<;>omega,wx5,wy5,?_,?_,?_,?_⟩,by simp only [iAt,C5x,C5y];omega⟩
   ·rw [D6 (by omega)];exact D8 hdx
   ·rw [D6 (by omega)];exact D8 hdy
   ·rw [D0 (by omega),F4,C5z,C64 (by omega),hpk,vx,vy,<- hxx,<- hyy,hvx,Yn mP mQ hbo]
    simp only [Km,if_true]
    grind
   ·rw [D0 (by omega),F4,C5z,C64 (by omega),hpk,vx,vy,<- hxx,<- hyy,hvy,Yn mR mT hlo]
    simp only [Kl,if_true]
    grind
  | false=>
   refine Br.of (fun e=>by cases e) (fun _=>?_)
   refine Fg mQ mP hbo ⟨_,_,rfl,aA,hA,by omega,by omega,wx.storeN F7 hA (by omega) ?_⟩
   intro h2 w2
   refine Fg mT mR hlo ⟨_,_,rfl,aB,hB,by omega,by omega,?_⟩
   obtain ⟨g3,wy3,wx3⟩:=w2.swap wy
   refine wy3.storeN F7 hB (by omega) ?_
   intro h4 w4
   obtain ⟨g5,wx5,wy5⟩:=w4.swap wx3
   refine ⟨⟨k+1,_,_,_,_,_,_,_,_,g5,rfl,by omega,by simpa using hxl,by simpa using hyl,dx.set (Ed _),dy.set (Ed _),bP,bQ,bR,bT,by split<;>omega,by split<;>omega,wx5,wy5,?_,?_,?_,?_⟩,by simp only [iAt,C5x,C5y];omega⟩
   ·rw [D6 (by omega)];exact D8 hdx
   ·rw [D6 (by omega)];exact D8 hdy
   ·rw [D0 (by omega),F4,C5z,C64 (by omega),hpk,vx,vy,<- hxx,<- hyy,hvx,Yn mQ mP hbo]
    simp only [Km,C7a,if_false]
    grind
   ·rw [D0 (by omega),F4,C5z,C64 (by omega),hpk,vx,vy,<- hxx,<- hyy,hvy,Yn mT mR hlo]
    simp only [Kl,C7a,if_false]
    grind
 ·obtain rfl:k=us.length:=by omega
  rw [C5v (show xs.length<=us.length by omega),C7j,C5v (show bs.length<=us.length by omega)] at hvx
  rw [C5v (show ys.length<=us.length by omega),C7j,C5v (show bs.length<=us.length by omega)] at hvy
  have bx:=L6 (by decide) dx
  have by_:=L6 (by decide) dy
  rw [hxl] at bx
  rw [hyl] at by_
  exact hK xs ys hp g1 hxl hyl dx dy (pin hvx ⟨C8 (by decide) dx,bx⟩ hX0) (pin hvy ⟨C8 (by decide) dy,by_⟩ hX1) wx wy
end
theorem Win.priv{k:IntKind}{h g:Heap}{b m c:Nat}{e:TypeId}{A:Option Addr}{xs:List Int}{post:List Value}(w:Win k h g b e A [] xs post)(hx:xs≠[])(hc:c=xs.length+post.length)(hm:m<=xs.length):Priv h g e 1 A m c ((xs.take m).map (C6c k)):=by
 refine ⟨by simp;omega,by omega,.inr ⟨b,xs.map (C6c k)++post,?_,w.free,?_,by simp;omega,?_⟩⟩
 ·rcases w.at_ with h0|h0
  ·exact absurd h0 hx
  ·simpa using h0
 ·have:=w.eq
  rwa [C75] at this
 ·rw [C6n,C6h (by simp;omega),List.map_take]
theorem Ey{k:IntKind}{h g:Heap}{n c:Nat}{e:TypeId}{A:Option Addr}{xs:List Int}(p:Priv h g e 1 A n c (xs.map (C6c k)))(hx:xs≠[]):∃ b post,Win k h g b e A [] xs post/\c=xs.length+post.length:=by
 obtain ⟨h1,h2,h3⟩:=p
 rw [List.length_map] at h1
 rcases h3 with ⟨hc,rfl⟩|⟨b,arr,hA,hb,rfl,h4,h5⟩
 ·exact absurd (C5t (by omega)) hx
 ·refine ⟨b,arr.drop (n*1),⟨hb,?_,.inr hA⟩,?_⟩
  ·rw [C75,<- h5,C7q]
  ·rw [C66];omega
theorem Priv.swap{h g1 g:Heap}{e e':TypeId}{s s' n c m d:Nat}{A B:Option Addr}{xs ys:List Value}(pa:Priv h g1 e s A n c xs)(pb:Priv g1 g e' s' B m d ys):∃ g2,Priv h g2 e' s' B m d ys/\Priv g2 g e s A n c xs:=by
 obtain ⟨a1,a2,a3⟩:=pa
 obtain ⟨b1,b2,b3⟩:=pb
 rcases a3 with ⟨hc,rfl⟩|⟨ba,arr,hA,hfa,rfl,a4⟩
 ·exact ⟨g,⟨b1,b2,b3⟩,⟨a1,a2,.inl ⟨hc,rfl⟩⟩⟩
 ·rcases b3 with ⟨hd,rfl⟩|⟨bb,brr,hB,hfb,rfl,b4⟩
  ·exact ⟨_,⟨b1,b2,.inl ⟨hd,rfl⟩⟩,⟨a1,a2,.inr ⟨ba,arr,hA,hfa,rfl,a4⟩⟩⟩
  ·have hne:ba≠bb:=by
    rintro rfl
    rw [C3] at hfa;cases hfa
   rw [B8 _ _ hne] at hfa
   refine ⟨g.put ba (.cells arr.toArray e),⟨b1,b2,.inr ⟨bb,brr,hB,?_,Heap.put_comm _ _ _ hne.symm,b4⟩⟩,⟨a1,a2,.inr ⟨ba,arr,hA,hfa,rfl,a4⟩⟩⟩
   rw [B8 _ _ hne.symm];exact hfb
abbrev Pw(h g:Heap)(A:Option Addr)(n c:Nat)(us:List Int):Prop:=Priv h g C1 1 A n c (us.map (C6c .u64))
def GI(h:Heap)(G:Nat)(hp:Heap)(A:Option Addr)(n c:Nat)(B:Option Addr)(m d:Nat):Prop:=∃ (us vs:List Int) (g1 g:Heap),h.le g/\Pw hp g1 A n c us/\Pw g1 g B m d vs/\Dig b64 us/\Dig b64 vs/\Norm us/\Norm vs/\n=us.length/\m=vs.length/\val b64 vs<=val b64 us/\C8a (val b64 us) (val b64 vs)=G/\us.length<=100000000
theorem B10{a b:Int}(ha:0<=a)(hb:0<=b):C8a b (a%b)=C8a a b:=by
 obtain ⟨x,rfl⟩:=C6w ha
 obtain ⟨y,rfl⟩:=C6w hb
 rw [<- C88,C6v,C6v,Nat.gcd_comm x,Nat.gcd_comm y,<- Nat.gcd_rec]
section
variable {h g:Heap} {K:VP} {A B:Option Addr} {ac bc:Nat}
set_option maxHeartbeats 1000000 in
theorem B56{G an bn:Nat}{hp:Heap}(gl:Gtz h)(gi:GI h G hp A an ac B bn bc)(hK:∀ A' m c' h',h.le h'->m<=c'->Mw h' A' m (G:Int)->K (.slice A' m c') h'):Kz prog K A an ac B bn bc hp:=by
 unfold Kz
 refine ⟨fun l hp=>∃ (A B:Option Addr) (n c m d:Nat),l=[.slice A n c,.slice B m d]/\GI h G hp A n c B m d,fun l hp=>match l with|[_,.slice B n _]=>B0m b64 hp B n|_=>0,⟨_,_,_,_,_,_,rfl,gi⟩,?_⟩
 rintro A1 n1 c1 B1 m1 d1 hp ⟨A,B,n,c,m,d,hl,us,vs,g1,g,lg,pa,pb,du,dv,nu,nv,hn,hm,hvu,hgcd,hul⟩
 simp only [C62,C67,and_true] at hl
 obtain ⟨⟨rfl,rfl,rfl⟩,rfl,rfl,rfl⟩:=hl
 have Ma:Mw hp A1 n1 (val b64 us):=⟨us,hn,pa.slV,du,nu,rfl⟩
 have Mb:Mw hp B1 m1 (val b64 vs):=⟨vs,hm,SlV.mono pa.le pb.slV,dv,nv,rfl⟩
 have hca:=pa.2.1
 have hcb:=pb.2.1
 have hu0:=C8 (by decide) du
 have hv0:=C8 (by decide) dv
 have hmn:m1<=n1:=Mb.len_le (by decide) (C82 hvu (Ma.lt (by decide)))
 have lhp:h.le hp:=B0 lg (B0 pb.le pa.le)
 have hbz:=Mb.len_zero (by decide)
 refine B6 (fun h1=>?_) (fun h1=>?_)
 ·refine Yr Ma Mb hvu (by omega) (by omega) ?_
  intro u0 u1 v0 v1 odd st
  refine ⟨_,_,_,_,_,rfl,E5 (fun e=>?_) (fun e=>?_)⟩
  ·refine S7 Ma Mb hca hcb (by omega) (by omega) (by omega) ?_
   intro A2 m2 c2 A3 m3 c3 h6 l6 k2 k3 M2 M3
   refine ⟨_,_,_,_,_,_,rfl,?_⟩
   have hm3:m3<=m1:=M3.len_le (by decide) (by have:=C60 (val b64 us) (show 0<val b64 vs by omega);have:=Mb.lt (by decide);omega)
   obtain ⟨ws,hwl,sws,dws,nws,hwv⟩:=M3
   refine Eo sws hwl (by omega) ?_
   intro A4 c4 h7 g7 l7 p7
   obtain ⟨g2,pb2,pa2⟩:=pa.swap pb
   obtain ⟨g8,l8,pb8⟩:=pb2.after (B0 l6 l7)
   obtain ⟨g9,pB9,pA9⟩:=Priv.swap p7 pb8
   have hlt:=C60 (val b64 us) (show 0<val b64 vs by omega)
   have Mn:Mw h7 A4 ws.length (val b64 ws):=⟨ws,rfl,p7.slV,dws,nws,rfl⟩
   refine ⟨_,_,_,rfl,⟨_,_,_,_,_,_,rfl,vs,ws,g9,g8,B0 lg (B0 pa2.le l8),pB9,pA9,dv,dws,nv,nws,hm,rfl,by omega,?_,by omega⟩,?_⟩
   ·rw [hwv,B10 hu0 hv0];exact hgcd
   ·simp only [Am Mn,Am Mb]
    have:=C8 (by decide) dws
    omega
  ·obtain ⟨hu0',hu1',hv0',hv1',lh⟩:=st
   have lh:=lh e
   unfold Qq
   obtain ⟨g2,pb2,pa2⟩:=pa.swap pb
   refine ⟨fun l hp=>∃ (B:Option Addr) (m d j:Nat) (g1 g:Heap),l=[.slice B m d]/\h.le g/\Pw hp g1 B m d (vs++C5q j 0)/\Pw g1 g A1 n1 c1 us/\m=vs.length+j/\m<=n1,fun l _=>match l with|[.slice _ m _]=>n1-m|_=>0,⟨B1,m1,d1,0,g2,g,rfl,lg,by simpa using pb2,pa2,by omega,hmn⟩,?_⟩
   rintro B2 m2 d2 hp8 ⟨B',m',d',j,g3,g4,hl2,lg4,pb3,pa3,hmj,hmn2⟩
   simp only [C62,C67,and_true] at hl2
   obtain ⟨rfl,rfl,rfl⟩:=hl2
   refine B6 (fun h2=>?_) (fun h2=>?_)
   ·refine Dk P6 pb3 rfl rfl (by omega) (by omega) ?_
    intro A5 c5 h5 g5 l5 p5
    obtain ⟨g6,l6,pa6⟩:=pa3.after l5
    refine ⟨⟨A5,m2+1,c5,j+1,g5,g6,rfl,B0 lg4 l6,?_,pa6,by omega,by omega⟩,by simp only;omega⟩
    have p6:=p5
    rw [<- C80 (f:=C6c .u64),<- C7r,C63,<- C72] at p6
    exact p6
   ·obtain ⟨g5,pa5,pb5⟩:=pb3.swap pa3
    have hvl:(vs++C5q j (0:Int)).length=us.length:=by simp;omega
    have hune:us≠[]:=by rintro rfl;simp at hn;omega
    have hvne:vs++C5q j (0:Int)≠[]:=by intro h0;rw [h0] at hvl;simp at hvl;exact hune (C5t hvl.symm)
    obtain ⟨ba,qa,wa,hqa⟩:=Ey pa5 hune
    obtain ⟨bb,qb,wb,hqb⟩:=Ey pb5 hvne
    have hgl:=lh.gcd
    have hord:=lh.ord
    have hle:=lh.le
    have hblt:val b64 vs<b64^us.length:=by rw [<- hn];exact C82 hvu (Ma.lt (by decide))
    refine A85 wa wb hn (by omega) hvl.symm du (dv.append (I4 (by decide) _)) (by omega) hu0' hu1' hv0' hv1' (by rw [Cw];omega) (by rw [Cw];omega) ?_
    intro us' vs' h6 g6 hul' hvl' du' dv' hX0 hX1 wa' wb'
    rw [Cw] at hX0 hX1
    have hune':us'≠[]:=by rintro rfl;simp at hul';exact hune (C5t hul'.symm)
    have hvne':vs'≠[]:=by rintro rfl;simp at hvl';exact hune (C5t hvl'.symm)
    refine ⟨rfl,?_⟩
    rw [show n1=us'.length by omega]
    refine Dt wa'.sl (by omega) (by omega) ?_
    intro k1 hk1 nk1 vk1
    refine ⟨_,_,_,rfl,?_⟩
    rw [show m2=vs'.length by omega]
    refine Dt (SlV.mono wa'.le wb'.sl) (by omega) (by omega) ?_
    intro k2 hk2 nk2 vk2
    have pA:=wa'.priv (m:=k1) (c:=c1) hune' (by omega) hk1
    have pB:=wb'.priv (m:=k2) (c:=d2) hvne' (by omega) hk2
    have e1:(us'.take k1).length=k1:=by rw [C5z];omega
    have e2:(vs'.take k2).length=k2:=by rw [C5z];omega
    have Mn:Mw h6 B2 k2 (val b64 (vs'.take k2)):=⟨vs'.take k2,e2.symm,SlV.mono pA.le pB.slV,dv'.take _,nk2,rfl⟩
    refine ⟨_,_,_,rfl,⟨_,_,_,_,_,_,rfl,us'.take k1,vs'.take k2,_,_,lg4,pA,pB,du'.take _,dv'.take _,nk1,nk2,e1.symm,e2.symm,?_,?_,by omega⟩,?_⟩
    ·rw [vk1,vk2,hX0,hX1];omega
    ·rw [vk1,vk2,hX0,hX1,hgl];exact hgcd
    ·simp only [Am Mn,Am Mb]
     rw [vk2,hX1];omega
 ·refine E5 (fun h2=>?_) (fun h2=>?_)
  ·have h0:val b64 vs=0:=hbz.2 (by omega)
   rw [h0,Int.gcd_zero_right] at hgcd
   refine hK _ _ _ _ lhp hca ?_
   rw [<- hgcd,Int.natAbs_of_nonneg hu0];exact Ma
  ·have hm1:m1=1:=by omega
   obtain ⟨w,rfl⟩:∃ w,vs=[w]:=by
    rcases vs with _|⟨w,_|⟨w',r⟩⟩
    ·simp at hm;omega
    ·exact ⟨w,rfl⟩
    ·simp at hm;omega
   have hw:=dv w (by simp)
   rw [V4] at *
   obtain ⟨t,rfl⟩:∃ t:Nat,w=(t:Int):=C6w hw.1
   have hw2:(t:Int)<18446744073709551616:=hw.2
   have ht0:0<t:=by omega
   have sb:SlI .u64 hp B1 [(t:Int)]:=SlV.mono pa.le pb.slV
   refine sb.load hm (by omega) (by omega) ?_
   refine sb.load hm (by omega) (by omega) ?_
   show FCall _ _ #[_,U ((t:Nat):Int)] _ _
   refine Lz Ma ⟨ht0,by omega⟩ (by omega) ⟨_,rfl,B4 _,?_⟩
   have r0:=C6a (val b64 us) (b:=(t:Int)) (by omega)
   have r1:=C60 (val b64 us) (show (0:Int)<(t:Int) by omega)
   have hgm:=B10 hu0 (show (0:Int)<=(t:Int) by omega)
   obtain ⟨r,hr⟩:=C6w r0
   rw [hr] at r1 hgm ⊢
   show FCall _ _ #[U ((t:Nat):Int),_] _ _
   refine A2a (gl.mono lhp) (by omega) (by omega) ⟨_,rfl,B4 _,?_⟩
   rw [C6v] at hgm
   have hle:C7b t r<=t:=Nat.le_of_dvd ht0 (Nat.gcd_dvd_left t r)
   refine Bk (by omega) ?_
   intro A2 m2 c2 h2 l2 k2 M2
   rw [hgm,hgcd] at M2
   exact ⟨_,_,_,rfl,l2,hK _ _ _ _ (B0 lhp l2) k2 M2⟩
theorem Mv{x y:Int}{an bn:Nat}(gl:Gtz h)(ma:Mw h A an x)(mb:Mw h B bn y)(ha:an<=ac)(hb:bn<=bc)(hl:an<=100000000)(hl2:bn<=100000000)(hK:∀ A' m c' h',h.le h'->m<=c'->Mw h' A' m (C8a x y:Int)->K (.slice A' m c') h'):FCall prog Fq #[.slice A an ac,.slice B bn bc] h K:=by
 refine A2u _ _ _ _ _ _ ?_
 unfold A2v
 refine ⟨fun l hp=>hp=h/\∃ (A B:Option Addr) (n c m d:Nat) (x1 y1:Int),l=[.slice A n c,.slice B m d]/\Mw h A n x1/\Mw h B m y1/\y1<=x1/\n<=c/\m<=d/\n<=100000000/\m<=100000000/\C8a x1 y1=C8a x y,?_,?_⟩
 ·refine I9 ma mb (by omega) ⟨_,rfl,B6 (fun h1=>?_) (fun h1=>?_)⟩
  ·rw [Dc] at h1
   exact ⟨rfl,_,_,_,_,_,_,_,_,rfl,mb,ma,by omega,hb,ha,hl2,hl,Int.gcd_comm _ _⟩
  ·rw [Dc] at h1
   exact ⟨rfl,_,_,_,_,_,_,_,_,rfl,ma,mb,by omega,ha,hb,hl,hl2,rfl⟩
 ·rintro A1 n1 c1 B1 m1 d1 hp ⟨rfl,A2,B2,n,c,m,d,x1,y1,hli,M1,M2,hle,k1,k2,l1,l2,hg⟩
  simp only [C62,C67,and_true] at hli
  obtain ⟨⟨rfl,rfl,rfl⟩,rfl,rfl,rfl⟩:=hli
  have hx0:=M1.nonneg (by decide)
  refine E5 (fun h1=>?_) (fun h1=>?_)
  ·have:y1=0:=(M2.len_zero (by decide)).2 (by omega)
   subst this
   rw [Int.gcd_zero_right] at hg
   refine hK _ _ _ _ (B4 _) k1 ?_
   rw [<- hg,Int.natAbs_of_nonneg hx0];exact M1
  ·obtain ⟨us,hul,su,du,nu,rfl⟩:=M1
   obtain ⟨vs,hvl,sv,dv,nv,rfl⟩:=M2
   refine Eo su hul (by omega) ?_
   intro A3 c3 h3 g3 l3 p3
   refine ⟨_,_,_,rfl,?_⟩
   refine Eo (SlV.mono (B0 l3 p3.le) sv) hvl (by omega) ?_
   intro A4 c4 h4 g4 l4 p4
   refine ⟨_,_,_,rfl,?_⟩
   obtain ⟨g5,l5,p5⟩:=p3.after l4
   obtain ⟨g6,pa,pb⟩:=Priv.swap p4 p5
   exact B56 gl ⟨us,vs,g6,g5,B0 l3 l5,pa,pb,du,dv,nu,nv,rfl,rfl,hle,hg,by omega⟩ hK
end
structure ZI (h:Heap) (s:Bool) (A:Option Addr) (n c:Nat) (z:Int):Prop where
 cap:n<=c
 mag:Mw h A n (z.natAbs:Int)
 sgn:s=decide (z<0)
theorem ZI.mono{h h':Heap}{s:Bool}{A:Option Addr}{n c:Nat}{z:Int}(i:ZI h s A n c z)(l:h.le h'):ZI h' s A n c z:=⟨i.cap,i.mag.mono l,i.sgn⟩
theorem ZI.zero{h:Heap}{A:Option Addr}:ZI h false A 0 0 0:=⟨C6z _,Mag.zero,rfl⟩
theorem ZI.len{h:Heap}{s:Bool}{A:Option Addr}{n c m:Nat}{z:Int}(i:ZI h s A n c z)(hz:ZB m z)(hm:m<=6400000000):n<=100000000:=by
 obtain ⟨k,hk⟩:∃ k,k=100000000:=⟨_,rfl⟩
 rw [<- hk]
 refine i.mag.len_le (by decide) ?_
 rw [Kj]
 have h1:(z.natAbs:Int)<2^m:=by
  have:((z.natAbs:Nat):Int)<((2^m:Nat):Int):=Int.ofNat_lt.2 hz
  simpa using this
 have h2:=D3 (B:=2) (by decide) (show m<=64*k by omega)
 exact Int.lt_of_lt_of_le h1 h2
theorem ZI.zeroIff{h:Heap}{s:Bool}{A:Option Addr}{n c:Nat}{z:Int}(i:ZI h s A n c z):z=0↔n=0:=by
 have:=i.mag.len_zero (by decide)
 omega
section
variable {h g:Heap} {K:VP} {A B:Option Addr} {s s':Bool} {an ac bn bc m:Nat} {x y:Int}
theorem O3{v:Nat}{n c:Nat}{neg:Bool}(M:Mw h A n (v:Int))(hc:n<=c)(hK:∀ s,ZI h s A n c (if neg then -(v:Int) else v)->K (.agg #[.bool s,.slice A n c]) h):FCall prog Q3 #[.bool neg,.slice A n c] h K:=by
 have h0:=M.len_zero (by decide)
 refine A8c _ _ _ _ ?_
 unfold B2i
 cases neg with
 | true=>
  refine Br.of (fun _=>hK _ ⟨hc,?_,?_⟩) (fun e=>by cases e)
  ·simpa using M
  ·simp only [if_true,decide_eq_decide];omega
 | false=>
  refine Br.of (fun e=>by cases e) (fun _=>hK _ ⟨hc,?_,?_⟩)
  ·simpa using M
  ·simp
theorem Cc(i:ZI h s A an ac x)(hK:∀ s',ZI h s' A an ac (-x)->K (.agg #[.bool s',.slice A an ac]) h):FCall prog My #[.agg #[.bool s,.slice A an ac]] h K:=by
 refine B9r _ _ _ _ ?_
 unfold C4t
 refine O3 (neg:= !s) i.mag i.cap ?_
 intro s1 i1
 have e:(if (!s)=true then -(x.natAbs:Int) else x.natAbs)= -x:=by
  have:=i.sgn
  by_cases hx:x<0
  ·simp only [hx,decide_true] at this;subst this;simp;omega
  ·simp only [hx,decide_false] at this;subst this;simp;omega
 rw [e] at i1
 exact ⟨_,_,_,_,rfl,hK _ i1⟩
theorem Ds(i:ZI h s A an ac x)(j:ZI h s' B bn bc y)(hx:ZB m x)(hy:ZB m y)(hm:m<=6400000000)(hK:∀ s1 A' n' c' h',h.le h'->ZI h' s1 A' n' c' (x+y)->K (.agg #[.bool s1,.slice A' n' c']) h'):FCall prog Qf #[.agg #[.bool s,.slice A an ac],.agg #[.bool s',.slice B bn bc]] h K:=by
 have la:=i.len hx hm
 have lb:=j.len hy hm
 have hs:=i.sgn
 have hs':=j.sgn
 refine B9w _ _ _ _ _ _ _ _ ?_
 unfold C4x
 refine Br.of (fun e=>?_) (fun e=>?_)
 ·have e:s=s':=by simpa using e
  subst e
  refine R8 i.mag j.mag i.cap j.cap (by omega) (by omega) ?_
  intro A1 m1 c1 h1 l1 k1 M1
  refine ⟨_,_,_,rfl,l1,?_⟩
  rw [<- C7u] at M1
  refine O3 (neg:=s) M1 k1 ?_
  intro s1 i1
  refine ⟨_,_,_,_,rfl,B4 _,hK _ _ _ _ _ l1 ?_⟩
  have e2:(if s=true then -((x.natAbs+y.natAbs:Nat):Int) else ((x.natAbs+y.natAbs:Nat):Int))=x+y:=by
   cases s with
   | true=>have h1:=of_decide_eq_true hs.symm;have h2:=of_decide_eq_true hs'.symm;simp;omega
   | false=>have h1:=of_decide_eq_false hs.symm;have h2:=of_decide_eq_false hs'.symm;simp;omega
  rw [e2] at i1
  exact i1
 ·have e:s≠s':=by simpa using e
  refine I9 i.mag j.mag (by omega) ⟨_,rfl,B6 (fun h1=>?_) (fun h1=>?_)⟩
  ·have hge:¬ (x.natAbs:Int)<y.natAbs:=by rw [<- Dc];omega
   refine H2 i.mag j.mag i.cap (by omega) (by omega) ?_
   intro A1 m1 c1 h1 l1 k1 M1
   refine ⟨_,_,_,rfl,l1,?_⟩
   rw [show (x.natAbs:Int)-y.natAbs=((x.natAbs-y.natAbs:Nat):Int) by omega] at M1
   refine O3 (neg:=s) M1 k1 ?_
   intro s1 i1
   refine ⟨_,_,_,_,rfl,B4 _,hK _ _ _ _ _ l1 ?_⟩
   have e2:(if s=true then -((x.natAbs-y.natAbs:Nat):Int) else ((x.natAbs-y.natAbs:Nat):Int))=x+y:=by
    cases s with
    | true=>cases s' with
     | true=>exact absurd rfl e
     | false=>have h1:=of_decide_eq_true hs.symm;have h2:=of_decide_eq_false hs'.symm;rw [if_pos rfl];omega
    | false=>cases s' with
     | true=>have h1:=of_decide_eq_false hs.symm;have h2:=of_decide_eq_true hs'.symm;rw [if_neg (by simp)];omega
     | false=>exact absurd rfl e
   rw [e2] at i1
   exact i1
  ·have hge:(x.natAbs:Int)<y.natAbs:=by rw [<- Dc];omega
   refine H2 j.mag i.mag j.cap (by omega) (by omega) ?_
   intro A1 m1 c1 h1 l1 k1 M1
   refine ⟨_,_,_,rfl,l1,?_⟩
   rw [show (y.natAbs:Int)-x.natAbs=((y.natAbs-x.natAbs:Nat):Int) by omega] at M1
   refine O3 (neg:=s') M1 k1 ?_
   intro s1 i1
   refine ⟨_,_,_,_,rfl,B4 _,hK _ _ _ _ _ l1 ?_⟩
   have e2:(if s'=true then -((y.natAbs-x.natAbs:Nat):Int) else ((y.natAbs-x.natAbs:Nat):Int))=x+y:=by
    cases s with
    | true=>cases s' with
     | true=>exact absurd rfl e
     | false=>have h1:=of_decide_eq_true hs.symm;have h2:=of_decide_eq_false hs'.symm;rw [if_neg (by simp)];omega
    | false=>cases s' with
     | true=>have h1:=of_decide_eq_false hs.symm;have h2:=of_decide_eq_true hs'.symm;rw [if_pos rfl];omega
     | false=>exact absurd rfl e
   rw [e2] at i1
   exact i1
theorem L5(i:ZI h s A an ac x)(j:ZI h s' B bn bc y)(hx:ZB m x)(hy:ZB m y)(hm:m<=6400000000)(hK:∀ s1 A' n' c' h',h.le h'->ZI h' s1 A' n' c' (x*y)->K (.agg #[.bool s1,.slice A' n' c']) h'):FCall prog Bf #[.agg #[.bool s,.slice A an ac],.agg #[.bool s',.slice B bn bc]] h K:=by
 have la:=i.len hx hm
 have lb:=j.len hy hm
 have hs:=i.sgn
 have hs':=j.sgn
 refine B9s _ _ _ _ _ _ _ _ ?_
 unfold C4u
 refine H8 i.mag j.mag i.cap j.cap (by omega) (by omega) ?_
 intro A1 m1 c1 h1 l1 k1 M1
 refine ⟨_,_,_,rfl,l1,?_⟩
 rw [<- C6f] at M1
 refine O3 (neg:= !(s==s')) M1 k1 ?_
 intro s1 i1
 refine ⟨_,_,_,_,rfl,B4 _,hK _ _ _ _ _ l1 ?_⟩
 have e2:(if (!(s==s'))=true then -((x.natAbs*y.natAbs:Nat):Int) else ((x.natAbs*y.natAbs:Nat):Int))=x*y:=by
  rw [C6f]
  cases s with
  | true=>cases s' with
   | true=>rw [show (x.natAbs:Int)= -x by have:=of_decide_eq_true hs.symm;omega,show (y.natAbs:Int)= -y by have:=of_decide_eq_true hs'.symm;omega];show -x * -y=x*y;exact Int.neg_mul_neg x y
   | false=>rw [show (x.natAbs:Int)= -x by have:=of_decide_eq_true hs.symm;omega,show (y.natAbs:Int)=y by have:=of_decide_eq_false hs'.symm;omega];show -(-x*y)=x*y;rw [Int.neg_mul,Int.neg_neg]
  | false=>cases s' with
   | true=>rw [show (x.natAbs:Int)=x by have:=of_decide_eq_false hs.symm;omega,show (y.natAbs:Int)= -y by have:=of_decide_eq_true hs'.symm;omega];show -(x * -y)=x*y;rw [Int.mul_neg,Int.neg_neg]
   | false=>rw [show (x.natAbs:Int)=x by have:=of_decide_eq_false hs.symm;omega,show (y.natAbs:Int)=y by have:=of_decide_eq_false hs'.symm;omega];rfl
 rw [e2] at i1
 exact i1
theorem Z9(gl:Gtz h)(i:ZI h s A an ac x)(j:ZI h s' B bn bc y)(hx:ZB m x)(hy:ZB m y)(hm:m<=6400000000)(hK:∀ A' n' c' h',h.le h'->ZI h' false A' n' c' (C8a x y:Int)->K (.agg #[.bool false,.slice A' n' c']) h'):FCall prog Ju #[.agg #[.bool s,.slice A an ac],.agg #[.bool s',.slice B bn bc]] h K:=by
 have la:=i.len hx hm
 have lb:=j.len hy hm
 refine B9u _ _ _ _ _ _ _ _ ?_
 unfold C4w
 refine Mv gl i.mag j.mag i.cap j.cap la lb ?_
 intro A1 m1 c1 h1 l1 k1 M1
 refine ⟨_,_,_,rfl,hK _ _ _ _ l1 ⟨k1,?_,?_⟩⟩
 ·rw [C6v] at M1
  rw [Int.natAbs_natCast]
  exact M1
 ·simp
theorem Oe(i:ZI h s A an ac x)(hK:K (I (Int.sign x)) h):FCall prog Tm #[.agg #[.bool s,.slice A an ac]] h K:=by
 have h0:=i.zeroIff
 have hs:=i.sgn
 refine B5u _ _ _ _ ?_
 unfold C26
 refine E5 (fun e=>?_) (fun e=>?_)
 ·obtain rfl:x=0:=by omega
  simpa using hK
 ·refine Br.of (fun e2=>?_) (fun e2=>?_)
  ·subst e2
   have:=of_decide_eq_true hs.symm
   rw [Int.sign_eq_neg_one_of_neg this] at hK;exact hK
  ·subst e2
   have:=of_decide_eq_false hs.symm
   rw [Int.sign_eq_one_of_pos (by omega)] at hK;exact hK
end
section
variable {h g:Heap} {K:VP} {A B:Option Addr} {s s':Bool} {an ac bn bc m:Nat} {x y:Int}
theorem Ae(hs:s=decide (x<0)):(s=true/\x= -(x.natAbs:Int))\/(s=false/\x=(x.natAbs:Int)):=by
 by_cases h:x<0
 ·left;exact ⟨by rw [hs];simpa using h,by omega⟩
 ·right;exact ⟨by rw [hs];simpa using h,by omega⟩
theorem B4f(a b:Nat):(a:Int).tdiv b=((a/b:Nat):Int)/\(-(a:Int)).tdiv (-(b:Int))=((a/b:Nat):Int)/\(-(a:Int)).tdiv b= -((a/b:Nat):Int)/\(a:Int).tdiv (-(b:Int))= -((a/b:Nat):Int):=by
 refine ⟨(C6m a b).symm,?_,?_,?_⟩
 ·rw [Int.neg_tdiv,Int.tdiv_neg,Int.neg_neg,C6m]
 ·rw [Int.neg_tdiv,C6m]
 ·rw [Int.tdiv_neg,C6m]
theorem B4b(a b:Nat):(a:Int).tmod b=((a%b:Nat):Int)/\(-(a:Int)).tmod (-(b:Int))= -((a%b:Nat):Int)/\(-(a:Int)).tmod b= -((a%b:Nat):Int)/\(a:Int).tmod (-(b:Int))=((a%b:Nat):Int):=by
 refine ⟨(C6r a b).symm,?_,?_,?_⟩
 ·rw [Int.neg_tmod,Int.tmod_neg,C6r]
 ·rw [Int.neg_tmod,C6r]
 ·rw [Int.tmod_neg,C6r]
theorem A16(i:ZI h s A an ac x)(j:ZI h s' B bn bc y)(hx:ZB m x)(hy:ZB m y)(hm:m<=6400000000)(hy0:y≠0)(hK:∀ s1 A1 n1 c1 s2 A2 n2 c2 h',h.le h'->ZI h' s1 A1 n1 c1 (x.tdiv y)->ZI h' s2 A2 n2 c2 (x.tmod y)->K (.tuple #[.agg #[.bool s1,.slice A1 n1 c1],.agg #[.bool s2,.slice A2 n2 c2]]) h'):FCall prog Tn #[.agg #[.bool s,.slice A an ac],.agg #[.bool s',.slice B bn bc]] h K:=by
 have la:=i.len hx hm
 have lb:=j.len hy hm
 have hz:=j.zeroIff
 have cx:=Ae i.sgn
 have cy:=Ae j.sgn
 refine A89 _ _ _ _ _ _ _ _ ?_
 unfold B2c
 refine E5 (fun e=>by omega) (fun _=>?_)
 refine S7 i.mag j.mag i.cap j.cap (by omega) (by omega) (by omega) ?_
 intro A1 m1 c1 A2 m2 c2 h1 l1 k1 k2 M1 M2
 refine ⟨_,_,_,_,_,_,rfl,?_⟩
 rw [<- C7k] at M1
 rw [<- C88] at M2
 refine O3 (neg:= !(s==s')) M1 k1 ?_
 intro s1 i1
 refine ⟨_,_,_,_,rfl,B4 _,?_⟩
 refine O3 (neg:=s) M2 k2 ?_
 intro s2 i2
 refine ⟨_,_,_,_,rfl,B4 _,hK _ _ _ _ _ _ _ _ _ l1 ?_ ?_⟩
 ·have e:(if (!(s==s'))=true then -((x.natAbs/y.natAbs:Nat):Int) else ((x.natAbs/y.natAbs:Nat):Int))=x.tdiv y:=by
   have t:=B4f x.natAbs y.natAbs
   rcases cx with ⟨rfl,hx'⟩|⟨rfl,hx'⟩<;>rcases cy with ⟨rfl,hy'⟩|⟨rfl,hy'⟩<;>rw [<- hx',<- hy'] at t
   ·exact t.2.1.symm
   ·exact t.2.2.1.symm
   ·exact t.2.2.2.symm
   ·exact t.1.symm
  rw [e] at i1;exact i1
 ·have e:(if s=true then -((x.natAbs%y.natAbs:Nat):Int) else ((x.natAbs%y.natAbs:Nat):Int))=x.tmod y:=by
   have t:=B4b x.natAbs y.natAbs
   rcases cx with ⟨rfl,hx'⟩|⟨rfl,hx'⟩<;>rcases cy with ⟨rfl,hy'⟩|⟨rfl,hy'⟩<;>rw [<- hx',<- hy'] at t
   ·exact t.2.1.symm
   ·exact t.2.2.1.symm
   ·exact t.2.2.2.symm
   ·exact t.1.symm
  rw [e] at i2;exact i2
theorem F1(i:ZI h s A an ac x)(hK:K (.bool (decide (x=0))) h):FCall prog E9 #[.agg #[.bool s,.slice A an ac]] h K:=by
 have hz:=i.zeroIff
 refine A8a _ _ _ _ ?_
 unfold B2d
 have:((an:Int)==0)=decide (x=0):=by
  by_cases hx:x=0
  ·simp [hx,hz.1 hx]
  ·have:¬ an=0:=fun e=>hx (hz.2 e)
   simp [hx,this]
 rw [this];exact hK
theorem N9(i:ZI h s A an ac x)(hK:K (.bool (decide (x=1))) h):FCall prog U1 #[.agg #[.bool s,.slice A an ac]] h K:=by
 have cx:=Ae i.sgn
 have hz:=i.zeroIff
 have M:=i.mag
 refine B2e _ _ _ _ ?_
 unfold B7d
 rcases cx with ⟨rfl,hx⟩|⟨rfl,hx⟩
 ·refine Br.of (fun e=>by cases e) (fun _=>?_)
  rw [show decide (x=1)=false by simp;omega] at hK;exact hK
 ·refine Br.of (fun _=>?_) (fun e=>by cases e)
  obtain ⟨xs,hxl,sx,dx,nx,hxv⟩:=M
  refine E5 (fun e=>?_) (fun e=>?_)
  ·obtain ⟨w,rfl⟩:∃ w,xs=[w]:=by
    rcases xs with _|⟨w,_|⟨w',r⟩⟩
    ·simp at hxl;omega
    ·exact ⟨w,rfl⟩
    ·simp at hxl;omega
   refine sx.load hxl (by omega) (by omega) ?_
   rw [V4] at hxv
   show K (.bool (w==1)) h
   have:(w==1)=decide (x=1):=by
    by_cases h1:x=1
    ·have:w=1:=by omega
     simp [h1,this]
    ·have:¬ w=1:=by omega
     simp [h1,this]
   rw [this];exact hK
  ·have:¬ x=1:=by
    rintro rfl
    have h1:=i.mag.len_le (j:=1) (by decide) (by decide)
    have h2:¬ an=0:=fun e=>by have:=hz.2 e;omega
    omega
   rw [show decide (x=1)=false by simp [this]] at hK;exact hK
theorem P8(i:ZI h s A an ac x)(j:ZI h s' B bn bc y)(hx:ZB m x)(hy:ZB m y)(hm:m<=6400000000)(hy0:y≠0)(hK:∀ s1 A1 n1 c1 h',h.le h'->ZI h' s1 A1 n1 c1 (x.tdiv y)->K (.agg #[.bool s1,.slice A1 n1 c1]) h'):FCall prog Eg #[.agg #[.bool s,.slice A an ac],.agg #[.bool s',.slice B bn bc]] h K:=by
 refine B9q _ _ _ _ _ _ _ _ ?_
 unfold C4s
 refine N9 j ⟨_,rfl,B6 (fun e=>?_) (fun e=>?_)⟩
 ·subst e
  exact hK _ _ _ _ _ (B4 _) (by rw [Int.tdiv_one];exact i)
 ·refine A16 i j hx hy hm hy0 ?_
  intro s1 A1 n1 c1 s2 A2 n2 c2 h1 l1 i1 i2
  exact ⟨_,_,_,_,_,_,_,_,rfl,hK _ _ _ _ _ l1 i1⟩
theorem A3r(i:ZI h s A an ac x)(j:ZI h s' B bn bc y)(hx:ZB m x)(hm:m<=6400000000)(hK:K (.bool (decide (x=y))) h):FCall prog Zn #[.agg #[.bool s,.slice A an ac],.agg #[.bool s',.slice B bn bc]] h K:=by
 have la:=i.len hx hm
 have cx:=Ae i.sgn
 have cy:=Ae j.sgn
 have hsx:=i.sgn
 have hsy:=j.sgn
 refine B2g _ _ _ _ _ _ _ _ ?_
 unfold B7f
 refine Br.of (fun e=>?_) (fun e=>?_)
 ·have e:s=s':=by simpa using e
  refine I9 i.mag j.mag (by omega) ⟨_,rfl,?_⟩
  have:(Vm (x.natAbs:Int) y.natAbs==0)=decide (x=y):=by
   by_cases h1:x=y
   ·subst h1;unfold Vm;simp
   ·have h2:¬ x.natAbs=y.natAbs:=by
     rcases cx with ⟨rfl,hx'⟩|⟨rfl,hx'⟩<;>rcases cy with ⟨h3,hy'⟩|⟨h3,hy'⟩<;>(rw [<- e] at h3)<;>first|omega|(cases h3)
    unfold Vm
    by_cases h3:(x.natAbs:Int)<y.natAbs
    ·rw [if_pos h3];simp [h1]
    ·rw [if_neg h3,if_pos (by omega)];simp [h1]
  rw [this];exact hK
 ·have e:s≠s':=by simpa using e
  have:¬ x=y:=by rintro rfl;exact e (hsx.trans hsy.symm)
  rw [show decide (x=y)=false by simp [this]] at hK;exact hK
theorem Dr{n:Int}(h1: -9223372036854775808<=n)(h2:n<=9223372036854775807)(hK:∀ s1 A1 n1 c1 h',h.le h'->ZI h' s1 A1 n1 c1 n->K (.agg #[.bool s1,.slice A1 n1 c1]) h'):FCall prog Tp #[I n] h K:=by
 refine B9x _ ?_
 unfold C4y
 refine B6 (fun hn=>?_) (fun hn=>?_)
 ·have e:C0 (0-C0 n)=(n.natAbs:Int):=by rw [F2,F2];omega
  rw [e]
  refine Bk (by omega) ?_
  intro A1 m1 c1 h1 l1 k1 M1
  exact ⟨_,_,_,rfl,hK _ _ _ _ _ l1 ⟨k1,M1,by simpa using hn⟩⟩
 ·have e:C0 n=(n.natAbs:Int):=by rw [F2];omega
  rw [e]
  refine Bk (by omega) ?_
  intro A1 m1 c1 h1 l1 k1 M1
  exact ⟨_,_,_,rfl,hK _ _ _ _ _ l1 ⟨k1,M1,by simpa using hn⟩⟩
end
theorem A79{P:Program}{t d e:TypeId}(ht:P.underlying t=some .string)(hd:P.underlying d=some (.slice e))(he:P.underlying e=some (.int .u8)){h:Heap}{l:List UInt8}{K:VP}
 (x:∀ A c h',h.le h'->l.length<=c->SlV h' A (yv l)->K (.slice A l.length c) h'):wpH P (convert t d (.string (bs l))) K h:=by
 unfold convert
 simp only [C6,F0 ht,F0 hd,F0 he]
 unfold Conv.stringToBytes
 simp only [C6]
 refine Iv rfl (fun tt=>?_)
 have hsz:(bs l).size=l.length:=by simp [bs,C7e]
 have hcap:l.length<=(Question.appendCap (bs l).size 0 e).cut tt:=by
  rw [hsz];simp only [Question.cut];omega
 generalize (Question.appendCap (bs l).size 0 e).cut tt=cap at *
 rw [Q8]
 intro b hb
 generalize hcs:((bs l).data.map (fun b=>C6c .u8 b.toNat)++C6y (cap-(bs l).size) (C6c .u8 0))=cs
 have hle:h.le (h.put b (.cells cs e (cs.size,cs.size+1))):=Heap.le_put _ hb
 have hfz:(h.put b (.cells cs e)).freeze { block:=b,off:=cs.size } 1=h.put b (.cells cs e (cs.size,cs.size+1)):=by
  unfold Heap.freeze
  rw [if_neg (by decide)]
  funext k
  by_cases hk:k=b
  ·subst hk
   simp only [if_true,C3,Option.map_some]
   rfl
  ·rw [if_neg hk,B8 _ _ hk,B8 _ _ hk]
 refine ⟨cs,e,_,C3 _ _ _,?_⟩
 refine ⟨⟨_,C3 _ _ _⟩,?_⟩
 show K (.slice (some ⟨b,0,none⟩) (bs l).size cap) ((h.put b (.cells cs e)).freeze { block:=b,off:=cs.size } 1)
 rw [hfz,hsz]
 refine x _ _ _ hle hcap (.inr ⟨_,rfl,?_⟩)
 intro i v hv
 have hi:i<l.length:=by
  have:=(List.getElem?_eq_some_iff.1 hv).1
  simpa [yv] using this
 have e1:Addr.add ⟨b,0,none⟩ i=⟨b,i,none⟩:=by rw [D9,C7l]
 rw [e1,E7,<- hcs,Array.getElem?_append_left (by simp [bs];exact hi)]
 rw [<- hv]
 simp [yv,bs]
theorem ZB.tdiv{m:Nat}{x y:Int}(h:ZB m x):ZB m (x.tdiv y):=by
 unfold ZB at *
 rw [Int.natAbs_tdiv]
 exact Nat.lt_of_le_of_lt (C89 _ _) h
section
variable {h g:Heap} {K:VP} {A B:Option Addr} {s s':Bool} {an ac bn bc m:Nat} {x y:Int}
end
theorem A7q{ws:List Int}{k:Nat}(d:Dig b64 ws)(hl:ws.length=k+1)(h:b64^k<=val b64 ws):Norm ws:=by
 unfold Norm
 intro e
 rw [C8d,hl,Nat.add_sub_cancel] at e
 have:=(Bw (B:=b64) (by decide) d hl).1
 have e2:ws.getD k 0=0:=by simp [C81,e]
 rw [e2] at this
 omega
section
variable {h g:Heap} {K:VP} {A B:Option Addr} {ac bc:Nat}
theorem B5k{Invv:LP}{muv:LN}{d1:ByteArray}{n c:Nat}{chunk base:Int}{us:List Int}{hp hp2:Heap}(p:Pw hp2 g A n c us)(hn:n=us.length)(du:Dig b64 us)(nu:Norm us)(hl:n<=100000000)(hch:0<=chunk/\chunk<18446744073709551616)(hba:1<=base/\base<18446744073709551616)
 (hK:∀ A' n' c' us' h' g',g.le g'->Pw h' g' A' n' c' us'->n'=us'.length->n'<=n+1->Dig b64 us'->Norm us'->val b64 us'=chunk+base*val b64 us->Invv [.string ((d1).extract ((B5 ((C7v (B5 (((C7e d1:Nat):Int)-(1:Int))) (19:Int))+(1:Int))).toNat) ((d1).size)),.slice A' n' c'] h'/\muv [.string ((d1).extract ((B5 ((C7v (B5 (((C7e d1:Nat):Int)-(1:Int))) (19:Int))+(1:Int))).toNat) ((d1).size)),.slice A' n' c'] h'<muv [.string d1,.slice A n c] hp):
 V3 prog Invv muv d1 A n c chunk base hp hp2:=by
 have hu0:=C8 (by decide) du
 unfold V3
 refine ⟨fun l hp3=>∃ (k:Nat) (ca:Int) (ws:List Int),l=[U ca,I k]/\k<=n/\(0<=ca/\ca<18446744073709551616)/\ws.length=us.length/\Dig b64 ws/\Pw hp3 g A n c ws/\ws.drop k=us.drop k/\val b64 (ws.take k)+b64^k*ca=chunk+base*val b64 (us.take k),fun l _=>n-(iAt l 1).toNat,⟨0,chunk,us,rfl,by omega,hch,rfl,du,p,rfl,by simp [val]⟩,?_⟩
 rintro ca i hp3 ⟨k,ca',ws,hli,hk,hca,hwl,dw,pw,hdr,hv⟩
 obtain ⟨rfl,rfl⟩:ca=ca'/\i=(k:Int):=by simpa using hli
 refine B6 (fun h1=>?_) (fun h1=>?_)
 ·have gw:=N6 dw k
  have hww:=E6 hdr
  have vu:=C5 b64 us k
  have hne:ws≠[]:=by rintro rfl;simp at hwl;omega
  obtain ⟨b,post,w,hc⟩:=Ey pw hne
  refine w.sl.load (by omega) (by omega) (by omega) ?_
  simp only [C5r]
  generalize hx:ws.getD k 0=x at *
  refine S5 gw (by omega) hca ⟨_,_,rfl,?_⟩
  obtain ⟨a,ha,_⟩:=SlV.at w.sl (i:=k) (by simp;omega)
  refine ⟨a,ha,by omega,by omega,w.storeN F7 ha (by omega) ?_⟩
  intro h4 w4
  have bP:=Mm gw (show 0<=base/\base<18446744073709551616 by omega) hca
  have kP:=A23 (x*base+ca)
  have ek:B5 ((k:Int)+1)=((k+1:Nat):Int):=by rw [B7 (by omega) (by omega)];omega
  rw [ek]
  have p4:=w4.priv (m:=n) (c:=c) (by intro e0;have:=congrArg List.length e0;rw [List.length_set,List.length_nil] at this;exact hne (C5t this)) (by simpa using hc) (by simp;omega)
  rw [C5v (by simp;omega)] at p4
  refine ⟨⟨k+1,_,_,rfl,by omega,bP,by simpa using hwl,dw.set (Ed _),p4,?_,?_⟩,by simp only [iAt,C5x,C5y];omega⟩
  ·rw [D6 (by omega)];exact D8 hdr
  ·rw [D0 (by omega),F4,C5z,C64 (by omega),C6e,vu,<- hww,kP]
   show _+b64^k*_+b64^k*18446744073709551616*_=_
   generalize (x*base+ca)/18446744073709551616=q at *
   grind
 ·obtain rfl:k=n:=by omega
  rw [C5v (show ws.length<=k by omega),C5v (show us.length<=k by omega)] at hv
  refine G9 (fun h2=>?_) (fun h2=>?_)
  ·refine Dk P6 pw rfl rfl (by omega) (by omega) ?_
   intro A5 c5 h5 g5 l5 p5
   rw [<- C80 (f:=C6c .u64),<- C7r] at p5
   refine hK A5 (k+1) c5 (ws++[ca]) h5 g5 l5 p5 (by simp;omega) (by omega) (dw.append (Dig.one hca)) ?_ ?_
   ·unfold Norm;simpa using h2
   ·rw [F4,<- hv,hwl,<- hn]
  ·subst h2
   rw [Int.mul_zero,Int.add_zero] at hv
   refine hK A k c ws hp3 g (B4 _) pw (by omega) (by omega) dw ?_ hv
   rcases us with _|⟨u,r⟩
   ·have:ws=[]:=C5t (by simpa using hwl)
    rw [this];exact Norm.nil
   ·refine A7q (k:=r.length) dw (by simpa using hwl) ?_
    have M:Mw hp2 A k (val b64 (u::r)):=⟨_,hn,p.slV,du,nu,rfl⟩
    have hge:=M.ge (by decide) (by simp at hn;omega)
    rw [show k-1=r.length by simp at hn;omega] at hge
    have:1*val b64 (u::r)<=base*val b64 (u::r):=C5w hba.1 hu0
    omega
end
section
variable {h g:Heap} {K:VP} {A B:Option Addr} {ac bc:Nat}
theorem B6i{k:Nat}(h:k<=19):10^k<=10000000000000000000:=C7n (C7w (by decide) h) (by decide)
theorem A84{Invv:LP}{muv:LN}{d1:ByteArray}{n c tn:Nat}{T:Option Addr}{l:List UInt8}{hp hp1:Heap}(sv:SlV hp1 T (yv l))(ht:tn=l.length)(hd:∀ c∈l,H0 c)(h19:l.length<=19)
 (hK:(0<=B5 ((C7v (B5 (((C7e d1:Nat):Int)-(1:Int))) (19:Int))+(1:Int))/\B5 ((C7v (B5 (((C7e d1:Nat):Int)-(1:Int))) (19:Int))+(1:Int))<=(((d1).size:Nat):Int))/\V3 prog Invv muv d1 A n c (J6 l:Int) ((10^l.length:Nat):Int) hp hp1):
 Do prog Invv muv d1 A n c T tn hp1 hp:=by
 subst ht
 unfold Do
 refine ⟨fun s hp=>hp=hp1/\∃ k:Nat,s=[U (J6 (l.take k)),U ((10^k:Nat):Int),I k]/\k<=l.length,fun s _=>l.length-(iAt s 2).toNat,⟨rfl,0,by simp [J6],by omega⟩,?_⟩
 rintro ch ba i hp2 ⟨rfl,k,hli,hk⟩
 simp only [C62,C6b,and_true,true_and] at hli
 obtain ⟨rfl,rfl,rfl⟩:=hli
 refine B6 (fun h1=>?_) (fun h1=>?_)
 ·have hkl:k<l.length:=by omega
  obtain ⟨a,ha,hc⟩:=SlV.at sv (i:=k) (by rw [Hb];omega)
  have hdc:=hd l[k] (C86 hkl)
  have hlt:=Ge (l:=l.take k) (fun c hc=>hd c (C7x hc))
  rw [C5z,C64 (by omega)] at hlt
  have ht1:=B6i (k:=k+1) (by omega)
  have hps:10^(k+1)=10^k*10:=Nat.pow_succ _ _
  refine ⟨a,ha,by omega,by omega,((l[k].toNat:Nat):Int),?_,?_⟩
  ·rw [C5r,C6n,hc];simp [yv]
  ·unfold H0 at hdc
   have e1:C0 (wu8 (((l[k].toNat:Nat):Int)-48))=((l[k].toNat-48:Nat):Int):=by
    rw [Wm (by omega) (by omega),C2 (by omega) (by omega)];omega
   have e2:C0 (C0 (10*((J6 (l.take k):Nat):Int))+C0 (wu8 (((l[k].toNat:Nat):Int)-48)))=((J6 (l.take (k+1)):Nat):Int):=by
    rw [e1,C2 (n:=10*((J6 (l.take k):Nat):Int)) (by omega) (by omega),C2 (by omega) (by omega),List.take_succ_eq_append_getElem hkl,Ib];omega
   have e3:C0 (((10^k:Nat):Int)*10)=((10^(k+1):Nat):Int):=by rw [C2 (by omega) (by omega),hps];simp
   have e4:B5 ((k:Int)+1)=((k+1:Nat):Int):=by rw [B7 (by omega) (by omega)];omega
   rw [e2,e3,e4]
   exact ⟨⟨rfl,k+1,rfl,by omega⟩,by simp only [iAt,C5x,C5y];omega⟩
 ·obtain rfl:k=l.length:=by omega
  rw [C7j]
  exact hK
theorem Qw{l:List UInt8}(hd:∀ c∈l,H0 c)(hl:l.length<=100000000)(hK:∀ A n c h',h.le h'->n<=c->Mw h' A n (J6 l:Int)->K (.slice A n c) h'):FCall prog N2 #[.string (bs l)] h K:=by
 refine Ut _ ?_
 unfold Qo Kc
 refine ⟨fun s hp=>∃ (l0 l1:List UInt8) (us:List Int) (A:Option Addr) (n c:Nat) (g:Heap),s=[.string (bs l1),.slice A n c]/\l=l0++l1/\h.le g/\Pw hp g A n c us/\n=us.length/\Dig b64 us/\Norm us/\val b64 us=(J6 l0:Int)/\n<=l0.length,fun s _=>match s with|[.string d,_]=>d.size|_=>0,⟨[],l,[],none,0,0,h,rfl,rfl,B4 h,Priv.nil _ _ _ _,rfl,Dig.nil,Norm.nil,rfl,by omega⟩,?_⟩
 rintro d1 A1 n1 c1 hp ⟨l0,l1,us,A2,n2,c2,g,hs,hll,lg,p,hn,du,nu,hv,hnl⟩
 simp only [C62,C67,Value.string.injEq,and_true] at hs
 obtain ⟨rfl,rfl,rfl,rfl⟩:=hs
 have hlen:l.length=l0.length+l1.length:=by rw [hll,C5s]
 rw [J3]
 refine B6 (fun h1=>?_) (fun h1=>?_)
 ·obtain ⟨sz,hsz⟩:∃ sz,sz=(l1.length-1)%19+1:=⟨_,rfl⟩
  have e1:B5 (C7v (B5 ((l1.length:Int)-1)) 19+1)=(sz:Int):=by
   rw [B7 (n:=(l1.length:Int)-1) (by omega) (by omega),C76 (by omega),B7 (by omega) (by omega)];omega
  rw [e1,C5r,N7]
  refine ⟨⟨by omega,by omega⟩,A79 V5 Gm.und Dv ?_⟩
  intro T tc h2 l2 htc sv
  refine ⟨_,_,_,rfl,?_⟩
  have e2:(l1.drop 0).take (sz-0)=l1.take sz:=by simp
  rw [e2] at sv ⊢
  have e3:(l1.take sz).length=sz:=by rw [C5z];omega
  obtain ⟨g2,lg2,p2⟩:=p.after l2
  refine A84 sv rfl (fun c hc=>hd c (by rw [hll];exact List.mem_append_right _ (C7x hc))) (by omega) ?_
  rw [J3,e1]
  refine ⟨⟨by omega,by omega⟩,?_⟩
  have hlt:=Ge (l:=l1.take sz) (fun c hc=>hd c (by rw [hll];exact List.mem_append_right _ (C7x hc)))
  rw [e3] at hlt ⊢
  have ht:=B6i (k:=sz) (by omega)
  have hp1:0<10^sz:=C74 (by decide)
  refine B5k p2 hn du nu (by omega) (by omega) (by omega) ?_
  intro A' n' c' us' h' g' lg' p' hn' hnn du' nu' hv'
  rw [J3,e1,C5r,N7,C5v (by rw [C66];omega)]
  refine ⟨⟨l0++l1.take sz,l1.drop sz,us',A',n',c',g',rfl,by rw [C63,C7q];exact hll,B0 lg (B0 lg2 lg'),p',hn',du',nu',?_,by rw [C5s,e3];omega⟩,?_⟩
  ·rw [hv',hv,Gf,e3,C7u,C6f,C68];omega
  ·simp only [J3,C66];omega
 ·have:l1=[]:=C5t (by omega)
  subst this
  rw [C6i] at hll
  subst hll
  exact hK _ _ _ _ (B0 lg p.le) p.2.1 ⟨us,hn,p.slV,du,nu,hv⟩
end
def zb(l:List UInt8):List Int:=l.map fun c=>(c.toNat:Int)
theorem Gz(l:List UInt8):(zb l).length=l.length:=by simp [zb]
theorem A18(a b:List UInt8):zb (a++b)=zb a++zb b:=by simp [zb]
theorem C0o(l:List UInt8):(zb l).map (C6c .u8)=yv l:=by simp [zb,yv]
theorem A7f:∀ v,v<100->J1[2*v+1]? = some (dch (v%10))/\J1[2*v]? = some (dch (v/10)):=by decide +kernel
theorem A1i(a:Nat):C7v (a:Int) 100=((a%100:Nat):Int):=(C6r a 100).symm
theorem tm4(a:Nat):C7v (a:Int) 10000=((a%10000:Nat):Int):=(C6r a 10000).symm
theorem tm8(a:Nat):C7v (a:Int) 100000000=((a%100000000:Nat):Int):=(C6r a 100000000).symm
theorem A41(a:Nat):C79 (a:Int) 100=((a/100:Nat):Int):=(C6m a 100).symm
theorem td4(a:Nat):C79 (a:Int) 10000=((a/10000:Nat):Int):=(C6m a 10000).symm
theorem td8(a:Nat):C79 (a:Int) 100000000=((a/100000000:Nat):Int):=(C6m a 100000000).symm
theorem Gy{a:Nat}(h:a<4294967296):F9 (a:Int)=a:=O0 (by omega) (by omega)
theorem Mj(a:Nat):(a:Int)*2=((2*a:Nat):Int):=by omega
theorem A55(a:Nat):(a:Int)+1=((a+1:Nat):Int):=by omega
def FBI(g:Heap)(b:Nat)(e:TypeId)(A:Option Addr)(pre post:List Value)(N u0 nd u:Nat)(hp:Heap):Prop:=
 ∃ (ys:List Int) (t:List UInt8),Win .u8 hp g b e A pre (ys++zb t) post/\ys.length=nd/\nd+t.length=N/\pad N u0=pad nd u++t/\u<10^nd
section
variable {P:Program} {h g:Heap} {K:VP} {A:Option Addr} {b:Nat} {e:TypeId} {pre post:List Value}
theorem Kk(one:P.cellsOf 5=1/\(P.info? 5).isSome=true){N u0 j u:Nat}(f:FBI g b e A pre post N u0 (j+2) u h){E1 E0 I1 I2:Int}(h1:E1=((2*(u%100)+1:Nat):Int))(h0:E0=((2*(u%100):Nat):Int))(hI1:I1=((j+1:Nat):Int))(hI2:I2=(j:Int)){C:Heap->Prop}(hC:∀ h',FBI g b e A pre post N u0 j (u/100) h'->C h'):
 ∃ (t:UInt8),(0<=E1/\J1[E1.toNat]? = some t)/\∃ (t0:UInt8),(0<=E0/\J1[E0.toNat]? = some t0)/\∃ a1,A=some a1/\0<=I1/\I1<((N:Nat):Int)/\wpH P (Instr.storeAt 5 (.pointer (some (Addr.add a1 (I1.toNat*1)))) (Y ((t.toNat:Nat):Int))) (fun _ hp1=>∃ a2,A=some a2/\0<=I2/\I2<((N:Nat):Int)/\wpH P (Instr.storeAt 5 (.pointer (some (Addr.add a2 (I2.toNat*1)))) (Y ((t0.toNat:Nat):Int))) (fun _ hp2=>C hp2) hp1) h:=by
 subst h1 h0 hI1 hI2
 obtain ⟨ys,t,w,hl,hN,hp,hu⟩:=f
 obtain ⟨s1,s0⟩:=A7f (u%100) (by omega)
 have hA:∃ a,A=some a:=by
  rcases w.at_ with h0|h0
  ·have:=congrArg List.length h0
   rw [C5s,List.length_nil] at this;omega
  ·exact ⟨_,h0⟩
 obtain ⟨a,ha⟩:=hA
 have hlt:(ys++zb t).length=N:=by rw [C5s,Gz];omega
 refine ⟨_,⟨by omega,by rw [C5r];exact s1⟩,_,⟨by omega,by rw [C5r];exact s0⟩,a,ha,by omega,by omega,?_⟩
 rw [C5r]
 refine w.storeN one ha (by omega) ?_
 intro h2 w2
 refine ⟨a,ha,by omega,by omega,?_⟩
 rw [C5r]
 refine w2.storeN one ha (by rw [List.length_set];omega) ?_
 intro h3 w3
 refine hC h3 ⟨ys.take j,[dch (u/10%10),dch (u%10)]++t,?_,by rw [C5z];omega,by simp;omega,?_,?_⟩
 ·have e1:((ys++zb t).set (j+1) ((dch (u%100%10)).toNat:Int)).set j ((dch (u%100/10)).toNat:Int)=ys.take j++zb ([dch (u/10%10),dch (u%10)]++t):=by
   have e2:ys=ys.take j++[ys[j]'(by omega),ys[j+1]'(by omega)]:=by
    conv=>lhs;rw [<- C7q j ys]
    congr 1
    rw [C7d (by omega),C7d (by omega),C65 (by omega)]
   have hj:(ys.take j).length=j:=by rw [C5z];omega
   rw [e2,show u%100%10=u%10 by omega,show u%100/10=u/10%10 by omega]
   generalize ys[j]'_=y0
   generalize ys[j+1]'_=y1
   rw [C6h (by omega),C5v (show (ys.take j).length<=j by omega)]
   generalize ys.take j=zs at *
   rw [C63,List.set_append_right _ _ (by omega),List.set_append_right _ _ (by omega),hj,A18]
   simp [zb]
  rw [e1] at w3;exact w3
 ·rw [hp,B8w];simp
 ·rw [C7y] at hu
  exact Nat.div_lt_of_lt_mul (by rw [C7m];exact hu)
end
section
variable {h g:Heap} {K:VP} {A:Option Addr} {b:Nat} {e:TypeId} {pre post:List Value}
theorem Lj:prog.cellsOf 5=1/\(prog.info? 5).isSome=true:=A7d
theorem C1k{N u0 nd x:Nat}(hN:N<=24)(f:FBI g b e A pre post N u0 nd x h)(hn:nd<2)(hK:∀ h',Win .u8 h' g b e A pre (zb (pad N u0)) post->K (.tuple #[]) h'):Bb prog A N K nd x h:=by
 obtain ⟨ys,t,w,hl,hN,hp,hu⟩:=f
 unfold Bb
 refine B6 (fun h1=>?_) (fun h1=>?_)
 ·obtain rfl:nd=1:=by omega
  obtain ⟨y,rfl⟩:∃ y,ys=[y]:=by
   rcases ys with _|⟨y,_|⟨z,r⟩⟩
   ·simp at hl
   ·exact ⟨y,rfl⟩
   ·simp at hl
  have hA:∃ a,A=some a:=by
   rcases w.at_ with h0|h0
   ·simp at h0
   ·exact ⟨_,h0⟩
  obtain ⟨a,ha⟩:=hA
  refine ⟨a,ha,by omega,by omega,?_⟩
  rw [show ((0:Int)).toNat=0 from rfl]
  refine w.storeN Lj ha (by simp) ?_
  intro h2 w2
  refine hK h2 ?_
  have hx:x<10:=by simpa using hu
  have ev:wu8 (F9 (48+(x:Int)))=((dch x).toNat:Int):=by
   rw [O0 (by omega) (by omega),Wm (by omega) (by omega),En hx];omega
  rw [ev] at w2
  have e2:pad 1 x=[dch x]:=by
   rw [Rk,B09 _ (by omega),show x%10=x by omega];rfl
  rw [hp,e2,A18]
  simpa [zb] using w2
 ·obtain rfl:nd=0:=by omega
  have:ys=[]:=C5t hl
  subst this
  have hx:x=0:=by simpa using hu
  refine hK h ?_
  rw [hp,B09 _ hx]
  simpa using w
theorem C1j{N u0 nd x:Nat}(hN:N<=24)(f:FBI g b e A pre post N u0 nd x h)(hn:nd<4)(hK:∀ h',Win .u8 h' g b e A pre (zb (pad N u0)) post->K (.tuple #[]) h'):Bc prog A N K nd x h:=by
 unfold Bc
 have hx:x<10000:=by
  obtain ⟨_,_,_,_,_,_,hu⟩:=f
  exact C78 hu (C7n (C7w (by decide) (show nd<=4 by omega)) (by decide))
 refine ⟨fun l hp=>∃ nd x:Nat,l=[I nd,U32 x]/\FBI g b e A pre post N u0 nd x hp/\nd<2,B6 (fun h1=>?_) (fun h1=>?_),?_⟩
 ·obtain ⟨j,rfl⟩:∃ j,nd=j+2:=⟨nd-2,by omega⟩
  refine Kk Lj f ?_ ?_ (by rw [B7 (by omega) (by omega)];omega) (by rw [B7 (by omega) (by omega)];omega) ?_
  ·simp (disch:=omega) only [A1i,Gy,Mj,A55]
  ·simp (disch:=omega) only [A1i,Gy,Mj]
  ·intro h2 f2
   refine ⟨j,x/100,?_,f2,by omega⟩
   rw [B7 (by omega) (by omega),A41,Gy (by omega)]
   simp only [C62,C6b,and_true,true_and];omega
 ·exact ⟨nd,x,rfl,f,by omega⟩
 ·rintro nd2 x2 hp ⟨n3,x3,hl,f3,hn3⟩
  obtain ⟨rfl,rfl⟩:nd2=(n3:Int)/\x2=(x3:Int):=by simpa using hl
  exact C1k hN f3 hn3 hK
theorem W8{u an ac:Nat}{xs:List Int}(w:Win .u8 h g b e A pre xs post)(hn:an=xs.length)(hN:an<=24)(hu:u<10^an)(hu2:u<18446744073709551616)(hK:∀ h',Win .u8 h' g b e A pre (zb (pad an u)) post->K (.tuple #[]) h'):FCall prog Q4 #[.slice A an ac,U (u:Int)] h K:=by
 refine Rg _ _ _ _ ?_
 unfold Oa
 refine ⟨fun l hp=>∃ nd v:Nat,l=[U v,I nd]/\FBI g b e A pre post an u nd v hp/\v<=u,fun l _=>(iAt l 1).toNat,⟨an,u,rfl,⟨xs,[],by simpa [zb] using w,hn.symm,by simp,by simp,hu⟩,C6z _⟩,?_⟩
 rintro u1 nd1 hp ⟨nd,v,hl,f,hv⟩
 obtain ⟨rfl,rfl⟩:u1=(v:Int)/\nd1=(nd:Int):=by simpa using hl
 have hnN:nd<=an:=by obtain ⟨_,_,_,_,hN,_,_⟩:=f;omega
 refine B6 (fun h1=>?_) (fun h1=>?_)
 ·obtain ⟨j,rfl⟩:∃ j,nd=j+8:=⟨nd-8,by omega⟩
  refine Kk (j:=j+6) Lj f ?_ ?_ (by rw [B7 (by omega) (by omega)];omega) (by rw [B7 (by omega) (by omega)];omega) ?_
  ·simp (disch:=omega) only [tm8,tm4,A1i,Gy,Mj,A55];omega
  ·simp (disch:=omega) only [tm8,tm4,A1i,Gy,Mj];omega
  intro h2 f2
  refine Kk (j:=j+4) Lj f2 ?_ ?_ (by rw [B7 (by omega) (by omega)];omega) (by rw [B7 (by omega) (by omega)];omega) ?_
  ·simp (disch:=omega) only [tm8,tm4,A41,Gy,Mj,A55];omega
  ·simp (disch:=omega) only [tm8,tm4,A41,Gy,Mj];omega
  intro h3 f3
  refine Kk (j:=j+2) Lj f3 ?_ ?_ (by rw [B7 (by omega) (by omega)];omega) (by rw [B7 (by omega) (by omega)];omega) ?_
  ·simp (disch:=omega) only [tm8,A1i,td4,Gy,Mj,A55];omega
  ·simp (disch:=omega) only [tm8,A1i,td4,Gy,Mj];omega
  intro h4 f4
  refine Kk (j:=j) Lj f4 ?_ ?_ (by rw [B7 (by omega) (by omega)];omega) (by rw [B7 (by omega) (by omega)];omega) ?_
  ·simp (disch:=omega) only [tm8,A41,td4,Gy,Mj,A55];omega
  ·simp (disch:=omega) only [tm8,A41,td4,Gy,Mj];omega
  intro h5 f5
  have e1:B5 (((j+8:Nat):Int)-8)=(j:Int):=by rw [B7 (by omega) (by omega)];omega
  have e2:C0 (C79 (v:Int) 100000000)=((v/100/100/100/100:Nat):Int):=by
   rw [td8,C2 (by omega) (by omega)];omega
  rw [e1,e2]
  exact ⟨⟨j,_,rfl,f5,by omega⟩,by simp only [iAt,C5x,C5y];omega⟩
 ·have hv8:v<100000000:=by
   obtain ⟨_,_,_,_,_,_,hu⟩:=f
   exact C78 hu (C7n (C7w (by decide) (show nd<=8 by omega)) (by decide))
  refine ⟨fun l hp=>∃ nd x:Nat,l=[I nd,U32 x]/\FBI g b e A pre post an u nd x hp/\nd<4,B6 (fun h2=>?_) (fun h2=>?_),?_⟩
  ·obtain ⟨j,rfl⟩:∃ j,nd=j+4:=⟨nd-4,by omega⟩
   refine Kk (j:=j+2) Lj f ?_ ?_ (by rw [B7 (by omega) (by omega)];omega) (by rw [B7 (by omega) (by omega)];omega) ?_
   ·simp (disch:=omega) only [tm4,A1i,Gy,Mj,A55];omega
   ·simp (disch:=omega) only [tm4,A1i,Gy,Mj];omega
   intro h3 f3
   refine Kk (j:=j) Lj f3 ?_ ?_ (by rw [B7 (by omega) (by omega)];omega) (by rw [B7 (by omega) (by omega)];omega) ?_
   ·simp (disch:=omega) only [tm4,A41,Gy,Mj,A55];omega
   ·simp (disch:=omega) only [tm4,A41,Gy,Mj];omega
   intro h4 f4
   refine ⟨j,v/100/100,?_,f4,by omega⟩
   rw [B7 (by omega) (by omega),Gy (by omega),td4,Gy (by omega)]
   simp only [C62,C6b,and_true,true_and];omega
  ·exact ⟨nd,v,by rw [Gy (by omega)],f,by omega⟩
  ·rintro nd2 x2 hp2 ⟨n3,x3,hl3,f3,hn3⟩
   obtain ⟨rfl,rfl⟩:nd2=(n3:Int)/\x2=(x3:Int):=by simpa using hl3
   exact C1j hN f3 hn3 hK
end
theorem Tj{P:Program}{h:Heap}{l:List UInt8}{m:Nat}{ys:List Value}(hy:ys=yv l)(hm:m=l.length){K:Array Value->Heap->Prop}(x:K ys.toArray h):wpH P (Builtin.firstCells 1 m (.string (bs l))) K h:=by
 subst hm hy
 show K _ h
 have e:((bs l).extract 0 l.length).data.map (fun b=>C6c .u8 b.toNat)=(yv l).toArray:=by
  rw [N7]
  apply Array.toList_inj.1
  simp [bs,yv]
 rw [e];exact x
theorem Um{P:Program}{t e e' ty:TypeId}{z:Value}{bytes:Nat}(st:SliceT P t e z 1 bytes){h g:Heap}{A:Option Addr}{n c:Nat}{xs:List Value}(p:Priv h g e' 1 A n c xs)
 {B:Option Addr} {m d:Nat} {ys:List Value} (hy:ys.length=m) (hc:SlV h B ys) (h1:∀ v∈ys,A3o v=true) (hb:(2*(n+m)+192)*bytes<=281474976710656) (hm:n+m<=9223372036854775807) {K:VP}
 (x1:n+m<=c->∀ h',Priv h' g e' 1 A (n+m) c (xs++ys)->K (.slice A (n+m) c) h') (x2:c<n+m->∀ A' c' h' g',g.le g'->Priv h' g' e 1 A' (n+m) c' (xs++ys)->K (.slice A' (n+m) c') h'):
 wpH P (C6x #[t,t] ty #[.slice A n c,.slice B m d]) K h:=by
 obtain ⟨i,hi,hz,hsz,hby⟩:=st.parts
 have hposx:=st.pos
 have hp1:=p.1
 rw [C6n] at hp1
 unfold C6x
 simp only [C7s,C5x,C5y,C6,F0 st.und,L3 hi,G1,C7a,if_false,Builtin.lenOf,hsz,Bool.not_false,if_true]
 by_cases hfit:n+m<=c
 ·simp only [hfit,if_true,C6]
  refine L8 (by omega) hc ?_
  rcases p.2.2 with ⟨hc0,hg⟩|⟨b,arr,hA,hgb,hh,hal,hat⟩
  ·have hn0:n=0:=by omega
   have hm0:m=0:=by omega
   subst hn0;subst hg
   have hys:ys=[]:=C5t (by omega)
   have hxs:xs=[]:=C5t (by omega)
   have fin:K (.slice A (0+m) c) h:=x1 hfit h ⟨by rw [hys,hxs,hm0];rfl,by omega,.inl ⟨hc0,rfl⟩⟩
   subst hys
   cases A with
   | none=>exact fin
   | some a=>exact fin
  ·subst hA
   simp only [C6,D9,C7l]
   rw [hh]
   rw [C6n] at hal hat ⊢
   refine J0 ys.toArray.toList n 0 arr ?_ (fun v hv=>h1 v (by simpa using hv)) ?_
   ·simp only
    omega
   ·simp only [G1,Nat.add_zero]
    refine x1 hfit _ ⟨by rw [C5s];omega,hfit,.inr ⟨b,_,rfl,hgb,rfl,?_,?_⟩⟩
    ·simp only [K5,C5s,C5z,C66,hal,hy];omega
    ·have hl1:(arr.take n).length=n:=by rw [C5z,hal];omega
     unfold K5
     have t1:(arr.take n).take (n+m)=arr.take n:=C5v (by rw [hl1];omega)
     have t2:ys.take m=ys:=C5v (by omega)
     rw [C6n,C63,C71,hl1,C7g,C71,t1,t2,hy,Nat.sub_self,List.take_zero,C6i,hat]
 ·have hlt:c<n+m:=by omega
  simp only [hfit,if_false,C6,I5 hi,hby]
  have hnx:=Oq hlt
  have hnb:Builtin.nextslicecap (n+m) c*bytes<=281474976710656:=C7n (Nat.mul_le_mul_right _ hnx) hb
  rw [if_neg (by rintro ⟨h',_⟩;simp only [IntKind.max,IntKind.signed,IntKind.bits] at h';simp at h';omega)]
  simp only [C6,I5 hi,hby]
  rw [if_neg (by simp only [show (2^48:Nat)=281474976710656 from rfl];omega)]
  simp only [G1,C6]
  refine Iv rfl fun tt=>?_
  simp only [Fb,I5 hi]
  have hold:xs=[]\/∃ a,A=some a/\∀ j v,xs[j]? = some v->h.cell? (a.add j)=some v:=p.slV
  refine L8 p.1 hold ?_
  refine L8 (by omega) hc ?_
  simp only [Q7 hi hz,Q8]
  intro b hfree
  have hcut:∃ nc,(Question.appendCap (n+m) c e).cut tt=nc/\n+m<=nc:=⟨_,rfl,by simp only [Question.cut];omega⟩
  obtain ⟨nc,hnc,hge⟩:=hcut
  rw [hnc]
  have hgle:=p.le
  refine x2 hlt _ nc _ h hgle ⟨by rw [C5s];omega,hge,.inr ⟨b,xs++ys++(C6p z.cells (nc-(n+m))).toList,rfl,hfree,?_,?_,?_⟩⟩
  ·congr 1;simp
  ·have hzl:(C6p z.cells (nc-(n+m))).toList.length=nc-(n+m):=by simp [C6p,st.cells]
   rw [C5s,C5s,hp1,hy,hzl];omega
  ·rw [C6n,C6h (by rw [C5s];omega),C5v (by rw [C5s];omega)]
theorem A86{P:Program}{t e e' ty t2:TypeId}{z:Value}{bytes:Nat}(st:SliceT P t e z 1 bytes)(hu:P.underlying t2=some .string){h g:Heap}{A:Option Addr}{n c:Nat}{xs:List Value}(p:Priv h g e' 1 A n c xs)
 {m:Nat} {l:List UInt8} {ys:List Value} (hly:ys=yv l) (hm0:m=l.length) (hy:ys.length=m) (h1:∀ v∈ys,A3o v=true) (hb:(2*(n+m)+192)*bytes<=281474976710656) (hm:n+m<=9223372036854775807) {K:VP}
 (x1:n+m<=c->∀ h',Priv h' g e' 1 A (n+m) c (xs++ys)->K (.slice A (n+m) c) h') (x2:c<n+m->∀ A' c' h' g',g.le g'->Priv h' g' e 1 A' (n+m) c' (xs++ys)->K (.slice A' (n+m) c') h'):
 wpH P (C6x #[t,t2] ty #[.slice A n c,.string (bs l)]) K h:=by
 obtain ⟨i,hi,hz,hsz,hby⟩:=st.parts
 have hposx:=st.pos
 have hp1:=p.1
 rw [C6n] at hp1
 unfold C6x
 simp only [C7s,C5x,C5y,C6,F0 st.und,F0 hu,L3 hi,G1,C7a,if_false,Builtin.lenOf,hsz,Bool.not_false,if_true,J3,<- hm0]
 by_cases hfit:n+m<=c
 ·simp only [hfit,if_true,C6]
  refine Tj hly hm0 ?_
  rcases p.2.2 with ⟨hc0,hg⟩|⟨b,arr,hA,hgb,hh,hal,hat⟩
  ·have hn0:n=0:=by omega
   have hm0:m=0:=by omega
   subst hn0;subst hg
   have hys:ys=[]:=C5t (by omega)
   have hxs:xs=[]:=C5t (by omega)
   have fin:K (.slice A (0+m) c) h:=x1 hfit h ⟨by rw [hys,hxs,hm0];rfl,by omega,.inl ⟨hc0,rfl⟩⟩
   subst hys
   cases A with
   | none=>exact fin
   | some a=>exact fin
  ·subst hA
   simp only [C6,D9,C7l]
   rw [hh]
   rw [C6n] at hal hat ⊢
   refine J0 ys.toArray.toList n 0 arr ?_ (fun v hv=>h1 v (by simpa using hv)) ?_
   ·simp only
    omega
   ·simp only [G1,Nat.add_zero]
    refine x1 hfit _ ⟨by rw [C5s];omega,hfit,.inr ⟨b,_,rfl,hgb,rfl,?_,?_⟩⟩
    ·simp only [K5,C5s,C5z,C66,hal,hy];omega
    ·have hl1:(arr.take n).length=n:=by rw [C5z,hal];omega
     unfold K5
     have t1:(arr.take n).take (n+m)=arr.take n:=C5v (by rw [hl1];omega)
     have t2:ys.take m=ys:=C5v (by omega)
     rw [C6n,C63,C71,hl1,C7g,C71,t1,t2,hy,Nat.sub_self,List.take_zero,C6i,hat]
 ·have hlt:c<n+m:=by omega
  simp only [hfit,if_false,C6,I5 hi,hby]
  have hnx:=Oq hlt
  have hnb:Builtin.nextslicecap (n+m) c*bytes<=281474976710656:=C7n (Nat.mul_le_mul_right _ hnx) hb
  rw [if_neg (by rintro ⟨h',_⟩;simp only [IntKind.max,IntKind.signed,IntKind.bits] at h';simp at h';omega)]
  simp only [C6,I5 hi,hby]
  rw [if_neg (by simp only [show (2^48:Nat)=281474976710656 from rfl];omega)]
  simp only [G1,C6]
  refine Iv rfl fun tt=>?_
  simp only [Fb,I5 hi]
  have hold:xs=[]\/∃ a,A=some a/\∀ j v,xs[j]? = some v->h.cell? (a.add j)=some v:=p.slV
  refine L8 p.1 hold ?_
  refine Tj hly hm0 ?_
  simp only [Q7 hi hz,Q8]
  intro b hfree
  have hcut:∃ nc,(Question.appendCap (n+m) c e).cut tt=nc/\n+m<=nc:=⟨_,rfl,by simp only [Question.cut];omega⟩
  obtain ⟨nc,hnc,hge⟩:=hcut
  rw [hnc]
  have hgle:=p.le
  refine x2 hlt _ nc _ h hgle ⟨by rw [C5s];omega,hge,.inr ⟨b,xs++ys++(C6p z.cells (nc-(n+m))).toList,rfl,hfree,?_,?_,?_⟩⟩
  ·congr 1;simp
  ·have hzl:(C6p z.cells (nc-(n+m))).toList.length=nc-(n+m):=by simp [C6p,st.cells]
   rw [C5s,C5s,hp1,hy,hzl];omega
  ·rw [C6n,C6h (by rw [C5s];omega),C5v (by rw [C5s];omega)]
theorem Yz(l:List UInt8):∀ v∈yv l,A3o v=true:=by
 intro v hv
 simp only [yv,List.mem_map] at hv
 obtain ⟨c,_,rfl⟩:=hv
 rfl
theorem Gh{P:Program}{t:TypeId}{z v:Value}(hz:(P.info? t).map (fun i=>i.zero)=some (some z)){K:VP}{h:Heap}(x:∀ b,h b=none->K (.pointer (some ⟨b,0,none⟩)) (h.put b (.cells z.cells t))):wpH P (Instr.alloc t true v) K h:=by
 cases hi:P.info? t with
 | none=>rw [hi] at hz;cases hz
 | some i=>
  rw [hi] at hz
  simp only [Option.map_some,C84] at hz
  unfold Instr.alloc
  simp only [C6,Q7 hi hz]
  unfold newVar
  simp only [Q8,G1]
  exact x
theorem A6q:(prog.info? Sa).map (fun i=>i.zero)=some (some (.agg (C6y 24 (.int .u8 0)))):=by kernel_rfl
def Gp(h:Heap):Prop:=∀ k,k<20->h.cell? (Addr.add ⟨2,0,none⟩ (k*1))=some (U ((10^k:Nat):Int))
theorem Gp.mono{h h':Heap}(g:Gp h)(l:h.le h'):Gp h':=fun k hk=>B9 l (g k hk)
section
variable {h g:Heap} {K:VP}
theorem Wq{i:Nat}(hi:i<100)(hK:K (.string (bs (N4 i))) h):FCall prog Rn #[I i] h K:=by
 refine B2y _ ?_
 unfold B7o
 have key:∀ i:Nat,i<100->(i<10->Zd.extract i (i+1)=bs (N4 i))/\(¬ i<10->J1.extract (2*i) (2*i+2)=bs (N4 i)):=by
  intro i hi
  have hd:N4 i=if i<10 then [dch i] else [dch (i/10),dch (i%10)]:=by
   split
   ·by_cases h0:i=0
    ·subst h0;rfl
    ·rw [Z8 h0,Bg h0,show i/10=0 by omega,J8,show i%10=i by omega];rfl
   ·rw [Z8 (by omega),Bg (by omega),Bg (by omega),show i/10/10=0 by omega,J8,show i/10%10=i/10 by omega];rfl
  rw [hd]
  revert i
  decide +kernel
 obtain ⟨k1,k2⟩:=key i hi
 refine B6 (fun h1=>?_) (fun h1=>?_)
 ·have e1:B5 ((i:Int)+1)=((i+1:Nat):Int):=by rw [B7 (by omega) (by omega)];omega
  rw [e1,C5r,C5r,k1 (by omega)]
  exact ⟨⟨by omega,by show _<=((36:Nat):Int);omega⟩,⟨by omega,by omega⟩,hK⟩
 ·have e1:B5 ((i:Int)*2)=((2*i:Nat):Int):=by rw [B7 (by omega) (by omega)];omega
  have e2:B5 (((2*i:Nat):Int)+2)=((2*i+2:Nat):Int):=by rw [B7 (by omega) (by omega)];omega
  rw [e1,e2,C5r,C5r,k2 (by omega)]
  exact ⟨⟨by omega,by show _<=((200:Nat):Int);omega⟩,⟨by omega,by omega⟩,hK⟩
theorem Dl{d:Nat}(gp:Gp h)(h0:d≠0)(hd:d<18446744073709551616)(hK:K (I ((dd d).length:Int)) h):FCall prog Ag #[U (d:Int)] h K:=by
 refine A0o _ ?_
 unfold Xq
 have hb:N8 d<=64:=If hd
 obtain ⟨_,_,hn⟩:=B6q (N8 d) (by omega)
 refine A66 hd ⟨_,rfl,A0p _ ?_⟩
 unfold Xr
 have e1:C83 (B5 ((N8 d:Int)*78913)) (2^(min ((18:Int)).toNat 64))=((ndg (N8 d):Nat):Int):=by
  rw [show (2:Int)^(min ((18:Int)).toNat 64)=262144 by decide,Int.fdiv_eq_ediv_of_nonneg _ (by decide),B7 (by omega) (by omega)]
  unfold ndg;omega
 rw [e1]
 refine ⟨_,rfl,⟨by omega,by omega⟩,_,by rw [C5r];exact gp _ (by omega),B2z _ ?_⟩
 unfold B7p
 rw [C1a h0 hd] at hK
 refine B6 (fun h1=>⟨_,rfl,?_⟩) (fun h1=>⟨_,rfl,?_⟩)
 ·rw [if_pos (by omega)] at hK
  rw [B7 (by omega) (by omega)]
  exact hK
 ·rw [if_neg (by omega)] at hK
  rw [B7 (by omega) (by omega)]
  exact hK
theorem Un{e':TypeId}{A:Option Addr}{n c i:Nat}{l:List UInt8}(gp:Gp h)(p:Priv h g e' 1 A n c (yv l))(hi:i<18446744073709551616)(hn:n<=1000000000000)
 (hK:∀ A' c' e2 h' g',g.le g'->Priv h' g' e2 1 A' (n+(N4 i).length) c' (yv (l++N4 i))->(n+(N4 i).length<=c->A'=A/\c'=c/\e2=e')->(e'=G0->e2=G0)->K (.slice A' (n+(N4 i).length:Nat) c') h'):FCall prog Fv #[.slice A n c,U (i:Int),I 10] h K:=by
 refine We _ _ _ _ _ ?_
 unfold Vf
 refine E5 (fun _=>?_) (fun e=>absurd rfl e)
 have hdl:(N4 i).length<=20:=(Ru (by decide)).2 (by show i<10^20;omega)
 refine B6 (fun h1=>?_) (fun h1=>?_)
 ·rw [B7 (by omega) (by omega)]
  refine Wq (by omega) ⟨_,rfl,?_⟩
  refine A86 Gm V5 p (l:=N4 i) rfl rfl (Hb _) (Yz _) (by omega) (by omega) ?_ ?_
  ·intro hf h' p'
   rw [<- T6] at p'
   exact ⟨_,_,_,rfl,hK _ _ _ _ _ (B4 _) p' (fun _=>⟨rfl,rfl,rfl⟩) id⟩
  ·intro hf A' c' h' g' lg p'
   rw [<- T6] at p'
   exact ⟨_,_,_,rfl,hK _ _ _ _ _ lg p' (fun e=>by omega) (fun _=>rfl)⟩
 ·refine Gh A6q ?_
  intro b hb
  have hz:(Value.agg (C6y 24 (.int .u8 0))).cells=((C5q 24 (0:Int)).map (C6c .u8)).toArray:=by rfl
  rw [hz]
  have w0:Win .u8 (h.put b (.cells ((C5q 24 (0:Int)).map (C6c .u8)).toArray Sa)) h b Sa (some ⟨b,0,none⟩) [] (C5q 24 (0:Int)) []:=⟨hb,by simp,.inr rfl⟩
  generalize (h.put b (.cells ((C5q 24 (0:Int)).map (C6c .u8)).toArray Sa))=h1' at *
  refine ⟨_,rfl,Dl (gp.mono w0.le) (by omega) hi ⟨_,rfl,?_⟩⟩
  have hdd:N4 i=dd i:=Z8 (by omega)
  rw [hdd] at hdl hK
  refine ⟨⟨by omega,by omega⟩,?_⟩
  rw [C5r,C6u]
  have w1:=w0.sub (l:=0) (m:=(dd i).length) (c:=24) (by omega) (by simp;omega) (by simp)
  have hw1:((C5q 24 (0:Int)).drop 0).take ((dd i).length-0)=C5q (dd i).length 0:=by
   rw [C7c,C6s,C6u,C64 (by omega)]
  rw [hw1] at w1
  have hlt:i<10^(dd i).length:=Q5.1 (C6z _)
  refine W8 w1 (by simp) (by omega) hlt hi ?_
  intro h2 w2
  refine ⟨rfl,⟨by omega,by omega⟩,?_⟩
  have hpd:pad (dd i).length i=dd i:=by simp [pad]
  rw [hpd] at w2
  have hs:SlV h2 (K9 (some ⟨b,0,none⟩) 24 0 1) (yv (dd i)):=by
   have:=w2.sl
   unfold SlI at this
   rw [C0o] at this
   exact this
  have hh2:=w2.eq
  obtain ⟨o,ho⟩:∃ o,h2=h.put b o:=⟨_,hh2⟩
  subst ho
  have p2:=p.put hb o
  have lgg:g.le (g.put b o):=by
   intro k o' hk
   have hne:k≠b:=by
    rintro rfl
    rw [p.le k o' hk] at hb;cases hb
   rw [B8 _ _ hne];exact hk
  refine Um Gm p2 (Hb _) hs (Yz _) (by omega) (by omega) ?_ ?_
  ·intro hf h' p'
   rw [<- T6] at p'
   exact ⟨_,_,_,rfl,hK _ _ _ _ _ lgg p' (fun _=>⟨rfl,rfl,rfl⟩) id⟩
  ·intro hf A' c' h' g' lg p'
   rw [<- T6] at p'
   exact ⟨_,_,_,rfl,hK _ _ _ _ _ (B0 lgg lg) p' (fun e=>by omega) (fun _=>rfl)⟩
end
structure Ext (g:Heap) (e':TypeId) (A:Option Addr) (n c:Nat) (l t:List UInt8) (A':Option Addr) (n' c':Nat) (e2:TypeId) (g' h':Heap):Prop where
 le:g.le g'
 priv:Priv h' g' e2 1 A' n' c' (yv (l++t))
 len:n'=n+t.length
 fit:n+t.length<=c->A'=A/\c'=c/\e2=e'
 tag:e'=G0->e2=G0
theorem Ext.trans{g g1 g2 h1 h2:Heap}{e' e1 e2:TypeId}{A A1 A2:Option Addr}{n c n1 c1 n2 c2:Nat}{l t s:List UInt8}(x:Ext g e' A n c l t A1 n1 c1 e1 g1 h1)(y:Ext g1 e1 A1 n1 c1 (l++t) s A2 n2 c2 e2 g2 h2):Ext g e' A n c l (t++s) A2 n2 c2 e2 g2 h2:=by
 refine ⟨B0 x.le y.le,?_,?_,?_,fun e=>y.tag (x.tag e)⟩
 ·have:=y.priv;rwa [C63] at this
 ·rw [y.len,x.len,C5s];omega
 ·intro hf
  rw [C5s] at hf
  obtain ⟨rfl,rfl,rfl⟩:=x.fit (by omega)
  have hx:=x.len
  exact y.fit (by omega)
section
variable {h g:Heap} {K:VP} {A:Option Addr} {n c:Nat} {e':TypeId} {l:List UInt8}
theorem Gs{i:Nat}(gp:Gp h)(p:Priv h g e' 1 A n c (yv l))(hi:i<18446744073709551616)(hn:n<=1000000000000)
 (hK:∀ A' n' c' e2 g' h',Ext g e' A n c l (N4 i) A' n' c' e2 g' h'->K (.slice A' n' c') h'):FCall prog Ga #[.slice A n c,U (i:Int),I 10] h K:=by
 refine Wl _ _ _ _ _ ?_
 unfold Vl
 refine Un gp p hi hn ?_
 intro A' c' e2 h' g' l1 p1 f1 b1
 exact ⟨_,_,_,rfl,hK _ _ _ _ _ _ ⟨l1,p1,rfl,f1,b1⟩⟩
theorem Mc{ch:UInt8}{v:Int}(hv:v=(ch.toNat:Int))(p:Priv h g e' 1 A n c (yv l))(hn:n<=1000000000000){KK:Option Addr->Nat->Nat->Heap->Prop}
 (x:∀ A' n' c' e2 g' h',Ext g e' A n c l [ch] A' n' c' e2 g' h'->KK A' n' c' h'):
 wpH prog (Instr.buildSlice Hd 1 #[(0,Y v)]) (fun v1 hp1=>∃ (A1:Option Addr) (n1 c1:Nat),v1= .slice A1 n1 c1/\wpH prog (C6x #[Hd,Hd] Hd #[.slice A n c,.slice A1 n1 c1]) (fun v2 hp2=>∃ (A2:Option Addr) (n2 c2:Nat),v2= .slice A2 n2 c2/\KK A2 n2 c2 hp2) hp1) h:=by
 subst hv
 refine An Gm rfl ?_
 intro b hfree
 refine ⟨_,_,_,rfl,?_⟩
 have p':=p.put hfree (.cells #[Y (ch.toNat:Int)] G0)
 have lgg:g.le (g.put b (.cells #[Y (ch.toNat:Int)] G0)):=by
  intro k o' hk
  have hne:k≠b:=by
   rintro rfl
   rw [p.le k o' hk] at hfree;cases hfree
  rw [B8 _ _ hne];exact hk
 have hs:SlV (h.put b (.cells #[Y (ch.toNat:Int)] G0)) (some ⟨b,0,none⟩) (yv [ch]):=by
  refine .inr ⟨_,rfl,fun j u hj=>?_⟩
  rw [D9,E7]
  match j with
  | 0=>simpa [yv] using hj
  | j+1=>simp [yv] at hj
 refine Um Gm p' (m:=1) (ys:=yv [ch]) rfl hs (Yz _) (by omega) (by omega) ?_ ?_
 ·intro hf h' p2
  rw [<- T6] at p2
  exact ⟨_,_,_,rfl,x _ _ _ _ _ _ ⟨lgg,p2,rfl,fun _=>⟨rfl,rfl,rfl⟩,id⟩⟩
 ·intro hf A' c' h' g' lg p2
  rw [<- T6] at p2
  exact ⟨_,_,_,rfl,x _ _ _ _ _ _ ⟨B0 lgg lg,p2,rfl,fun e=>by simp at e;omega,fun _=>rfl⟩⟩
theorem A5q{i:Int}(h:i<0):Kf i=[45]++N4 i.natAbs:=by unfold Kf;rw [if_pos h];rfl
theorem Rj{i:Int}(h:¬ i<0):Kf i=N4 i.natAbs:=by unfold Kf;rw [if_neg h]
theorem A1a{b:Nat}{e:TypeId}{B:Option Addr}{pre post:List Value}{s:List UInt8}(w:Win .u8 h g b e B pre (zb s) post):SlV h B (yv s):=by
 have:=w.sl
 unfold SlI at this
 rw [C0o] at this
 exact this
theorem Vt{i:Int}(gp:Gp h)(h1: -9223372036854775808<=i)(h2:i<9223372036854775808)(hK:K (.string (bs (Kf i))) h):FCall prog Hz #[I i,I 10] h K:=by
 refine FCall.pure (A13 _ _ ?_)
 unfold Yd
 refine A0r _ _ ?_
 unfold Xt
 refine E5 (fun _=>?_) (fun e=>absurd rfl e)
 refine ⟨fun L hp=>L=[.bool (decide (0<=i/\i<100))]/\hp=h,B6 (fun h3=>⟨by simp [h3],rfl⟩) (fun h3=>⟨by simp [h3],rfl⟩),?_⟩
 rintro t17 hp ⟨hL,rfl⟩
 obtain rfl:t17=decide (0<=i/\i<100):=by simpa using hL
 refine B6 (fun h3=>?_) (fun h3=>?_)
 ·obtain ⟨k,rfl⟩:∃ k:Nat,i=k:=⟨i.toNat,by omega⟩
  refine Wq (by omega) ⟨_,rfl,⟨_,rfl,B4 _,?_⟩⟩
  rw [Rj (by omega)] at hK
  exact hK
 ·refine Gh A6q ?_
  intro b hb
  have hz:(Value.agg (C6y 24 (.int .u8 0))).cells=((C5q 24 (0:Int)).map (C6c .u8)).toArray:=by rfl
  rw [hz]
  have w0:Win .u8 (hp.put b (.cells ((C5q 24 (0:Int)).map (C6c .u8)).toArray Sa)) hp b Sa (some ⟨b,0,none⟩) [] (C5q 24 (0:Int)) []:=⟨hb,by simp,.inr rfl⟩
  generalize (hp.put b (.cells ((C5q 24 (0:Int)).map (C6c .u8)).toArray Sa))=hp1 at *
  refine ⟨_,rfl,?_⟩
  obtain ⟨u,hu⟩:∃ u:Nat,u=i.natAbs:=⟨_,rfl⟩
  have hu0:u≠0:=by omega
  have hd:N4 u=dd u:=Z8 hu0
  have hdl:(dd u).length<=20:=Q5.2 (by show u<10^20;omega)
  have e1:B5 (1+(((dd u).length:Nat):Int))=((1+(dd u).length:Nat):Int):=by rw [B7 (by omega) (by omega)];omega
  have w1:=w0.sub (l:=1) (m:=1+(dd u).length) (c:=24) (by omega) (by simp;omega) (by simp)
  have hw1:((C5q 24 (0:Int)).drop 1).take (1+(dd u).length-1)=C5q (dd u).length 0:=by
   rw [C6t,C6s,C64 (by omega)];congr 1;omega
  rw [hw1] at w1
  have hlt:u<10^(dd u).length:=Q5.1 (C6z _)
  have hpd:pad (dd u).length u=dd u:=by simp [pad]
  have hn1:1+(dd u).length-1=(dd u).length:=by omega
  refine B6 (fun hi=>?_) (fun hi=>?_)
  ·rw [A5q hi,<- hu,hd] at hK
   have e:C0 (0-C0 i)=(u:Int):=by rw [F2,F2];omega
   rw [e]
   refine Dl (gp.mono w0.le) hu0 (by omega) ⟨_,rfl,?_⟩
   rw [e1,C5r]
   refine ⟨⟨by omega,by omega⟩,⟨by omega,by omega⟩,?_⟩
   rw [show ((1:Int)).toNat=1 from rfl,hn1]
   refine W8 w1 (by simp) (by omega) hlt (by omega) ?_
   intro hp2 w2
   rw [hpd] at w2
   refine ⟨rfl,B6 (fun _=>?_) (fun h4=>absurd hi h4)⟩
   have w3:=w0.whole (l:=1) (m:=1+(dd u).length) (by omega) (by simp;omega) (by rw [Gz];omega) w2
   refine ⟨⟨by omega,by omega⟩,?_⟩
   rw [show ((0:Int)).toNat=0 from rfl]
   refine w3.storeN Lj rfl (by simp) ?_
   intro hp4 w4
   refine ⟨⟨by omega,by omega⟩,?_⟩
   have w5:=w4.sub (l:=0) (m:=1+(dd u).length) (c:=24) (by omega) (by simp [Gz];omega) (by simp [Gz];omega)
   have e5:((((C5q 24 (0:Int)).take 1++zb (dd u)++(C5q 24 (0:Int)).drop (1+(dd u).length)).set 0 45).drop 0).take (1+(dd u).length-0)=zb ([45]++dd u):=by
    rw [C7c,C6s,show min 1 24=1 from rfl,show C5q 1 (0:Int)=[0] from rfl,C63,List.singleton_append,List.set_cons_zero,C6u,Nat.add_comm 1,List.take_succ_cons,C7p (Gz _)]
    rfl
   rw [e5] at w5
   refine Lo Gm.und Dv V5 (A1a w5) (by simp;omega) ⟨_,rfl,_,rfl,?_,hK⟩
   exact w4.le
  ·rw [Rj hi,<- hu,hd] at hK
   have e:C0 i=(u:Int):=by rw [F2];omega
   rw [e]
   refine Dl (gp.mono w0.le) hu0 (by omega) ⟨_,rfl,?_⟩
   rw [e1,C5r]
   refine ⟨⟨by omega,by omega⟩,⟨by omega,by omega⟩,?_⟩
   rw [show ((1:Int)).toNat=1 from rfl,hn1]
   refine W8 w1 (by simp) (by omega) hlt (by omega) ?_
   intro hp2 w2
   rw [hpd] at w2
   refine ⟨rfl,B6 (fun h4=>absurd h4 hi) (fun _=>?_)⟩
   refine ⟨⟨by omega,by omega⟩,⟨by omega,by omega⟩,?_⟩
   exact Lo Gm.und Dv V5 (A1a w2) rfl ⟨_,rfl,_,rfl,w2.le,hK⟩
theorem Vv{s q:List UInt8}(hK:K (.tuple #[.string (bs (if q <+: s then s.drop q.length else s)),.bool (decide (q <+: s))]) h):FCall prog Ia #[.string (bs s),.string (bs q)] h K:=by
 refine A14 _ _ ?_
 unfold Ye
 refine A0s _ _ ?_
 unfold Xu
 have hp:FCall prog Hr #[.string (bs s),.string (bs q)] h (fun r hp=>r= .bool (decide (q <+: s))/\hp=h):=by
  refine A0q _ _ ?_
  unfold Xs
  simp only [J3]
  refine B6 (fun h1=>?_) (fun h1=>?_)
  ·refine ⟨⟨by omega,by omega⟩,?_,trivial⟩
   rw [C5r,N7,Jy]
   congr 1
   rw [decide_eq_decide,C7c,C6u,List.prefix_iff_eq_take]
   exact eq_comm
  ·refine ⟨?_,trivial⟩
   congr 1
   symm
   rw [decide_eq_false_iff_not]
   intro hq
   have:=hq.length_le
   omega
 refine hp.mono ?_
 rintro r hp2 ⟨rfl,rfl⟩
 refine ⟨_,rfl,Br.not (B6 (fun h1=>?_) (fun h1=>?_))⟩
 ·rw [if_pos h1,decide_eq_true h1] at hK
  have:=h1.length_le
  simp only [J3]
  refine ⟨⟨by omega,by omega⟩,_,_,rfl,?_⟩
  rw [C5r,N7,C5v (by rw [C66];omega)]
  exact hK
 ·rw [if_neg h1,decide_eq_false h1] at hK
  exact ⟨_,_,rfl,hK⟩
end
abbrev cB:Int:=10000000000000000000
section
variable {h g:Heap} {K:VP} {A B:Option Addr} {ac bc:Nat}
theorem C24{Invv:LP}{muv:LN}{WA CA:Option Addr}{wn wc cn cc:Nat}{us:List Int}{hp1 g1:Heap}(p:Pw hp1 g1 WA wn wc us)(hne:us≠[])(hwn:wn=us.length)(du:Dig b64 us)(hl:wn<=100000000)
 (hK:∀ (ws:List Int) (m:Nat) (r:Int) (hp2:Heap),Pw hp2 g1 WA m wc (ws.take m)->m=(ws.take m).length->m<=wn->Norm (ws.take m)->Dig b64 (ws.take m)->val b64 us=val b64 (ws.take m)*cB+r->(0<=r/\r<cB)->
  wpH prog (Instr.buildSlice Y9 1 #[(0,U r)]) (fun v hp6=>∃ (t44A:Option Addr) (t44n:Nat) (t44c:Nat),v= .slice t44A t44n t44c/\wpH prog (C6x #[Y9,Y9] Y9 #[.slice CA cn cc,.slice t44A t44n t44c]) (fun v1 hp7=>∃ (t45A:Option Addr) (t45n:Nat) (t45c:Nat),v1= .slice t45A t45n t45c/\Invv [.slice WA m wc,.slice t45A t45n t45c] hp7/\muv [.slice WA m wc,.slice t45A t45n t45c] hp7<muv [.slice WA wn wc,.slice CA cn cc] hp1) hp6) hp2):
 Cs prog Invv muv WA wn wc CA cn cc hp1:=by
 obtain ⟨b,post,w0,hc⟩:=Ey p hne
 unfold Cs
 refine ⟨fun s hp=>∃ (k:Nat) (r:Int) (ws:List Int),s=[U r,I ((k:Int)-1)]/\k<=wn/\(0<=r/\r<cB)/\ws.length=us.length/\Dig b64 ws/\Win .u64 hp g1 b C1 WA [] ws post/\ws.take k=us.take k/\val b64 (us.drop k)=val b64 (ws.drop k)*cB+r,fun s _=>(iAt s 1+1).toNat,⟨wn,0,us,by rw [B7 (by omega) (by omega)],by omega,by decide,rfl,du,w0,rfl,by rw [C65 (by omega)];simp [val]⟩,?_⟩
 rintro rest i hp2 ⟨k,r,ws,hs,hk,hr,hwl,dw,w,htk,hv⟩
 obtain ⟨rfl,rfl⟩:rest=r/\i=(k:Int)-1:=by simpa using hs
 refine B6 (fun h1=>?_) (fun h1=>?_)
 ·obtain ⟨j,rfl⟩:∃ j,k=j+1:=⟨k-1,by omega⟩
  have e:((j+1:Nat):Int)-1=(j:Int):=by omega
  rw [e]
  have gx:=N6 dw j
  refine w.sl.load (by omega) (by omega) (by omega) ?_
  rw [C5r]
  refine Rt (y:=10000000000000000000) hr gx (by decide) ⟨_,_,rfl,?_⟩
  have hu:us.getD j 0=ws.getD j 0:=by
   have h3:(ws.take (j+1)).getD j 0=(us.take (j+1)).getD j 0:=by rw [htk]
   simpa [C81,List.getElem?_take] using h3.symm
  generalize hx:ws.getD j 0=x at *
  have hr':0<=rest/\rest<10000000000000000000:=hr
  have hT:0<=rest*18446744073709551616+x:=by omega
  have hq:0<=(rest*18446744073709551616+x)/10000000000000000000/\(rest*18446744073709551616+x)/10000000000000000000<18446744073709551616:=by omega
  obtain ⟨a,ha,_⟩:=SlV.at w.sl (i:=j) (by simp;omega)
  refine ⟨a,ha,by omega,by omega,w.storeN F7 ha (by omega) ?_⟩
  intro h4 w4
  rw [B7 (by omega) (by omega)]
  refine ⟨⟨j,_,_,rfl,by omega,by show _/\_<(10000000000000000000:Int);omega,by simpa using hwl,dw.set hq,w4,?_,?_⟩,by simp only [iAt,C5x,C5y];omega⟩
  ·rw [List.take_set_of_le (by omega)]
   have h3:=congrArg (List.take j) htk
   rw [List.take_take,List.take_take,C64 (by omega)] at h3
   exact h3
  ·rw [U9 (by omega),Li b64 (by omega),hv,hu]
   have:=C61 (rest*18446744073709551616+x) 10000000000000000000
   simp only [val]
   generalize (rest*18446744073709551616+x)/10000000000000000000=q at *
   generalize (rest*18446744073709551616+x)%10000000000000000000=s at *
   grind
 ·obtain rfl:k=0:=by omega
  rw [C7c,C7c] at hv
  rw [show wn=ws.length by omega] at hK ⊢
  refine Dt w.sl (by omega) (by omega) ?_
  intro m hm hN hve
  refine ⟨_,_,_,rfl,?_⟩
  have hne2:ws≠[]:=by intro e0;apply hne;exact C5t (by rw [<- hwl,e0];rfl)
  exact hK ws m rest hp2 (w.priv hne2 (by omega) hm) (by rw [C5z];omega) hm hN (dw.take m) (by rw [hve];exact hv) hr
end
def nv:List Nat->Nat
 | []=>0
 | c::r=>c+10^19*nv r
theorem B0g(ns:List Nat)(c:Nat):((nv (ns++[c]):Nat):Int)=(nv ns:Int)+cB^ns.length*(c:Int):=by
 induction ns with
 | nil=>simp [nv]
 | cons d r ih=>
  have e:((10^19:Nat):Int)=cB:=by decide
  simp only [List.cons_append,nv,List.length_cons,C6e,C7u,C6f,ih,e]
  grind
theorem C3q{ns:List Nat}(h:∀ c∈ns,c<10^19):nv ns<10^(19*ns.length):=by
 induction ns with
 | nil=>simp [nv]
 | cons d r ih=>
  have h1:=h d (by simp)
  have h2:=ih fun c hc=>h c (by simp [hc])
  simp only [nv,List.length_cons]
  rw [show 19*(r.length+1)=19+19*r.length by omega,C7y]
  have:=Nat.mul_le_mul_left (10^19) (show nv r+1<=10^(19*r.length) by omega)
  rw [Nat.mul_add] at this;omega
theorem C3p{ns:List Nat}(hne:ns≠[])(h:ns.getLast? ≠ some 0):nv ns≠0:=by
 induction ns with
 | nil=>exact absurd rfl hne
 | cons d r ih=>
  cases r with
  | nil=>simp at h;simp [nv];exact h
  | cons e s=>
   have:=ih (by simp) (by simpa [List.getLast?_cons_cons] using h)
   simp only [nv] at this ⊢
   have h3:0<10^19*(e+10^19*nv s):=Nat.mul_pos (by decide) (by omega)
   omega
theorem B4y{c:Nat}:C5q (19-(N4 c).length) 48++N4 c=pad 19 c:=by
 unfold N4 pad
 split
 ·rename_i h;subst h;rw [J8];rfl
 ·rfl
theorem B0a{c w:Nat}(h:c≠0):C5q (w-(N4 c).length) 48++N4 c=pad w c:=by
 unfold N4 pad;rw [if_neg h]
theorem A7o{w n k:Nat}(h:n<10^k):(pad w n).length<=w+k:=by
 unfold pad
 have:=Q5.2 h
 rw [C5s,C6d];omega
def A8v(W:Nat)(ns:List Nat)(k:Nat):List UInt8:=if k<ns.length then pad (W-19*k) (nv (ns.drop k)) else []
theorem B4a{W:Nat}{ns:List Nat}(h:∀ c∈ns,c<10^19)(k:Nat):(A8v W ns k).length<=W+19*ns.length:=by
 unfold A8v
 split
 ·have:=A7o (w:=W-19*k) (C3q (ns:=ns.drop k) fun c hc=>h c (List.mem_of_mem_drop hc))
  rw [C66] at this;omega
 ·simp
theorem A9c{W:Nat}{ns:List Nat}(hb:∀ c∈ns,c<10^19)(ht:ns.getLast? ≠ some 0){j:Nat}(hj:j<ns.length):A8v W ns j=A8v W ns (j+1)++(C5q ((if j+1=ns.length then max (N4 ns[j]).length (W-19*j) else 19)-(N4 ns[j]).length) 48++N4 ns[j]):=by
 have e:ns.drop j=ns[j]::ns.drop (j+1):=C7d hj
 unfold A8v
 rw [if_pos hj,e]
 by_cases h:j+1=ns.length
 ·rw [if_neg (by omega),if_pos h,C75,C65 (by omega)]
  have hc:ns[j]≠0:=by
   intro h0
   apply ht
   rw [C8d,<- h,Nat.add_sub_cancel,List.getElem?_eq_getElem hj,h0]
  rw [show max (N4 ns[j]).length (W-19*j)-(N4 ns[j]).length=(W-19*j)-(N4 ns[j]).length by omega,B0a hc]
  simp [nv]
 ·rw [if_pos (by omega),if_neg h,B4y]
  have hn:nv (ns.drop (j+1))≠0:=by
   apply C3p
   ·intro e0;have:=congrArg List.length e0;rw [C66] at this;simp at this;omega
   ·rw [List.getLast?_drop,if_neg (by omega)];exact ht
  have:=A1x (w:=W-19*j) (h:=nv (ns.drop (j+1))) (l:=ns[j]) (k:=19) (hb _ (C86 hj)) (.inl hn)
  rw [Nat.sub_sub] at this
  rw [show 19*(j+1)=19*j+19 by omega,<- this]
  congr 1
  simp only [nv];rw [C7m];omega
theorem Priv.clear{h g:Heap}{e:TypeId}{A:Option Addr}{n c:Nat}{xs:List Value}(p:Priv h g e 1 A n c xs):Priv h g e 1 A 0 c []:=by
 obtain ⟨h1,h2,h3⟩:=p
 refine ⟨by simp,by omega,?_⟩
 rcases h3 with h3|⟨b,arr,a1,a2,a3,a4,a5⟩
 ·exact .inl h3
 ·exact .inr ⟨b,arr,a1,a2,a3,a4,by simp⟩
def nz(ns:List Nat):List Int:=ns.map fun (x:Nat)=>(x:Int)
def Bx(g:Heap)(eT:TypeId)(A:Option Addr)(n c:Nat)(l:List UInt8)(p:Addr)(CA:Option Addr)(ns:List Nat)(bl t:List UInt8)(tA:Option Addr)(tn tc:Nat)(hp:Heap):Prop:=
 ∃ e2 gA gB,Ext g eT A n c l t tA tn tc e2 gA hp/\Priv gA gB A97 1 (some p) bl.length 20 (yv bl)/\g.le gB/\SlI .u64 gB CA (nz ns)
section
variable {h g:Heap} {K:VP} {A CA:Option Addr} {n c:Nat} {eT:TypeId} {l:List UInt8} {p:Addr} {ns:List Nat}
theorem A5m{bl t s:List UInt8}{tA tA':Option Addr}{tn tc tn' tc':Nat}{e2 e3:TypeId}{gA gB g' hp hp':Heap}(x:Ext g eT A n c l t tA tn tc e2 gA hp)(q:Priv gA gB A97 1 (some p) bl.length 20 (yv bl))(lg:g.le gB)(sc:SlI .u64 gB CA (nz ns))(y:Ext gA e2 tA tn tc (l++t) s tA' tn' tc' e3 g' hp'):Bx g eT A n c l p CA ns bl (t++s) tA' tn' tc' hp':=by
 obtain ⟨gB',l1,q'⟩:=q.after y.le
 exact ⟨e3,g',gB',x.trans y,q',B0 lg l1,sc.mono l1⟩
theorem B5q{Invv2:LP}{muv2:LN}{tA:Option Addr}{tn tc q:Nat}{first:Bool}{i1 size:Int}{bl t:List UInt8}{hp9 hp11:Heap}(x:Bx g eT A n c l p CA ns bl t tA tn tc hp11)(hq:B5 (size-((bl.length:Nat):Int))=(q:Int))(hb:n+t.length+q+bl.length<=100000000000)
 (hK:∀ tA' tn' tc' hp',Bx g eT A n c l p CA ns bl (t++(C5q q 48++bl)) tA' tn' tc' hp'->Invv2 [.slice tA' tn' tc',.bool false,I (B5 (i1-1))] hp'/\muv2 [.slice tA' tn' tc',.bool false,I (B5 (i1-1))] hp'<muv2 [.slice tA tn tc,.bool first,I i1] hp9):
 Az prog Invv2 muv2 tA tn tc first i1 (some p) bl.length 20 size hp9 hp11:=by
 unfold Az
 rw [hq]
 refine ⟨fun s hp=>∃ (k:Nat) (tA:Option Addr) (tn tc:Nat),s=[.slice tA tn tc,I k]/\k<=q/\Bx g eT A n c l p CA ns bl (t++C5q k 48) tA tn tc hp,fun s _=>q-(iAt s 1).toNat,⟨0,tA,tn,tc,rfl,by omega,by simpa using x⟩,?_⟩
 rintro tA1 tn1 tc1 t71 hp12 ⟨k,tA2,tn2,tc2,hs,hk,e2,gA,gB,ex,pb,lg,sc⟩
 simp only [C62,C67,C6b,and_true,true_and] at hs
 obtain ⟨⟨rfl,rfl,rfl⟩,rfl⟩:=hs
 have hlen:=ex.len
 rw [C5s,C6d] at hlen
 refine B6 (fun h1=>?_) (fun h1=>?_)
 ·refine Mc (ch:=48) rfl ex.priv (by omega) ?_
  intro A' n' c' e3 g' h' y
  rw [B7 (by omega) (by omega)]
  refine ⟨⟨k+1,_,_,_,rfl,by omega,?_⟩,by simp only [iAt,C5x,C5y];omega⟩
  have:=A5m ex pb lg sc y
  rwa [C63,<- C72] at this
 ·obtain rfl:k=q:=by omega
  refine ⟨fun s hp=>∃ (tA:Option Addr) (tn tc:Nat),s=[.slice tA tn tc]/\Bx g eT A n c l p CA ns bl (t++(C5q k 48++bl)) tA tn tc hp,?_,?_⟩
  ·refine Um Gm ex.priv (Hb bl) (SlV.mono ex.priv.le pb.slV) (Yz _) (by omega) (by omega) ?_ ?_
   ·intro hf h' p'
    rw [<- T6] at p'
    refine ⟨_,_,_,rfl,_,_,_,rfl,?_⟩
    have:=A5m ex pb lg sc (s:=bl) ⟨B4 _,p',rfl,fun _=>⟨rfl,rfl,rfl⟩,id⟩
    rwa [C63] at this
   ·intro hf A' c' h' g' lg' p'
    rw [<- T6] at p'
    refine ⟨_,_,_,rfl,_,_,_,rfl,?_⟩
    have:=A5m ex pb lg sc (s:=bl) ⟨lg',p',rfl,fun e=>by omega,fun _=>rfl⟩
    rwa [C63] at this
  ·rintro tA3 tn3 tc3 hp16 ⟨tA4,tn4,tc4,hs,x4⟩
   simp only [C62,C67,and_true] at hs
   obtain ⟨rfl,rfl,rfl⟩:=hs
   exact hK _ _ _ _ x4
theorem B5o{W tn tc:Nat}{tA:Option Addr}{t:List UInt8}{e2:TypeId}{gA hp9:Heap}(x:Ext g eT A n c l t tA tn tc e2 gA hp9)(hW:W<=10000000000)(hb:tn<=10000000000)(hK:∀ A' n' c' e3 g' h',Ext g eT A n c l (t++C5q W 48) A' n' c' e3 g' h'->K (.slice A' n' c') h'):Ay prog (W:Int) K tA tn tc hp9:=by
 unfold Ay
 refine ⟨fun s hp=>∃ (k:Nat) (tA:Option Addr) (tn' tc:Nat) (e3:TypeId) (g':Heap),s=[.slice tA tn' tc,I k]/\k<=W/\tn'=tn+k/\Ext g eT A n c l (t++C5q k 48) tA tn' tc e3 g' hp,fun s _=>W-(iAt s 1).toNat,⟨0,tA,tn,tc,e2,gA,rfl,by omega,rfl,by simpa using x⟩,?_⟩
 rintro tA1 tn1 tc1 t82 hp17 ⟨k,tA2,tn2,tc2,e3,g',hs,hk,htn,ex⟩
 simp only [C62,C67,C6b,and_true,true_and] at hs
 obtain ⟨⟨rfl,rfl,rfl⟩,rfl⟩:=hs
 refine B6 (fun h1=>?_) (fun h1=>?_)
 ·refine Mc (ch:=48) rfl ex.priv (by omega) ?_
  intro A' n' c' e4 g2 h' y
  rw [B7 (by omega) (by omega)]
  refine ⟨⟨k+1,_,_,_,e4,g2,rfl,by omega,?_,?_⟩,by simp only [iAt,C5x,C5y];omega⟩
  ·have:=y.len;simp at this;omega
  ·have:=ex.trans y
   rwa [C63,<- C72] at this
 ·obtain rfl:k=W:=by omega
  exact hK _ _ _ _ _ _ ex
theorem B5p{W cn:Nat}{tA:Option Addr}{tn tc:Nat}{hp8:Heap}{b:Nat}(gp:Gp g)(hp:p=⟨b,0,none⟩)(x:Bx g eT A n c l p CA ns [] [] tA tn tc hp8)(hcn:cn=ns.length)(hb:∀ c∈ns,c<10^19)(ht:ns.getLast? ≠ some 0)(hW:W<=1000000000)(hn:n<=1000000000)(hnl:ns.length<=1000000000)
 (hK:∀ A' n' c' e3 g' h',Ext g eT A n c l (pad W (nv ns)) A' n' c' e3 g' h'->K (.slice A' n' c') h'):Ba prog tA tn tc (W:Int) K CA cn p hp8:=by
 subst hcn
 have hcut:K9 (some p) 20 0 1=some p:=by rw [hp];rfl
 unfold Ba
 refine ⟨fun s hp=>∃ (k:Nat) (tA:Option Addr) (tn tc:Nat) (bl:List UInt8),s=[.slice tA tn tc,.bool (decide (k=ns.length)),I ((k:Int)-1)]/\k<=ns.length/\Bx g eT A n c l p CA ns bl (A8v W ns k) tA tn tc hp,fun s _=>(iAt s 2+1).toNat,⟨ns.length,tA,tn,tc,[],by rw [B7 (by omega) (by omega)];simp,C6z _,by unfold A8v;rw [if_neg (by omega)];exact x⟩,?_⟩
 rintro tA1 tn1 tc1 first i1 hp9 ⟨k,tA2,tn2,tc2,bl,hs,hk,e2,gA,gB,ex,pb,lg,sc⟩
 simp only [C62,C67,C6b,Value.bool.injEq,and_true,true_and] at hs
 obtain ⟨⟨rfl,rfl,rfl⟩,rfl,rfl⟩:=hs
 have hlen:=ex.len
 have htl:=B4a (W:=W) hb k
 refine B6 (fun h1=>?_) (fun h1=>?_)
 ·obtain ⟨j,rfl⟩:∃ j,k=j+1:=⟨k-1,by omega⟩
  have e:((j+1:Nat):Int)-1=(j:Int):=by omega
  rw [e]
  have hj:j<ns.length:=by omega
  refine ⟨⟨by omega,by omega⟩,?_⟩
  refine (sc.mono (B0 pb.le ex.priv.le)).load (by simp [nz]) (by omega) (by simp;omega) ?_
  have hz:(nz ns).getD (j:Int).toNat 0=((ns[j]:Nat):Int):=by
   rw [C5r];simp [nz,C81,hj]
  rw [hz,hcut,show ((0:Int)).toNat-0=0 from rfl,show 20-0=20 from rfl]
  have hc19:=hb ns[j] (C86 hj)
  have hdl:(N4 ns[j]).length<=20:=(Ru (by decide)).2 (C78 hc19 (by decide))
  refine ex.priv.call ?_
  refine Gs (l:=[]) (gp.mono (B0 lg pb.le)) pb.clear (C78 hc19 (by decide)) (by omega) ?_
  intro A' n' c' e3 g' h0 y h' pt
  obtain ⟨rfl,rfl,rfl⟩:=y.fit (by omega)
  have yl:=y.len
  rw [C7l] at yl
  subst yl
  refine ⟨_,_,_,rfl,?_⟩
  have x2:Bx g eT A n c l p CA ns (N4 ns[j]) (A8v W ns (j+1)) tA1 tn1 tc1 h':=
   ⟨e2,h0,g',⟨B0 lg (B0 y.le y.priv.le),pt,ex.len,ex.fit,ex.tag⟩,by simpa using y.priv,B0 lg y.le,sc.mono y.le⟩
  refine ⟨fun s hp=>s=[I (((if j+1=ns.length then max (N4 ns[j]).length (W-19*j) else 19):Nat):Int)]/\hp=h',B6 (fun hf=>⟨?_,rfl⟩) (fun hf=>⟨by rw [if_neg hf];rfl,rfl⟩),?_⟩
  ·rw [if_pos hf,B7 (n:=19*(j:Int)) (by omega) (by omega),B7 (by omega) (by omega)]
   simp only [C62,C6b,and_true,true_and]
   by_cases hc:(W:Int)-19*(j:Int)>(((N4 ns[j]).length:Nat):Int)
   ·rw [if_pos hc];omega
   ·rw [if_neg hc];omega
  ·rintro size hp11 ⟨hs2,rfl⟩
   obtain rfl:size=(((if j+1=ns.length then max (N4 ns[j]).length (W-19*j) else 19):Nat):Int):=by simpa using hs2
   have hd19:(N4 ns[j]).length<=19:=(Ru (by decide)).2 hc19
   generalize hsz:(if j+1=ns.length then max (N4 ns[j]).length (W-19*j) else 19)=sz at *
   have hsz2:(N4 ns[j]).length<=sz/\sz<=W+20:=by
    rw [<- hsz];split<;>omega
   refine B5q (q:=sz-(N4 ns[j]).length) x2 (by rw [B7 (by omega) (by omega)];omega) (by have:=ex.len;omega) ?_
   intro tA' tn' tc' hp' x3
   rw [B7 (by omega) (by omega)]
   refine ⟨⟨j,tA',tn',tc',N4 ns[j],?_,by omega,?_⟩,by simp only [iAt,C5x,C5y];omega⟩
   ·rw [show decide (j=ns.length)=false by simp;omega]
   ·rw [A9c hb ht hj,hsz];exact x3
 ·obtain rfl:k=0:=by omega
  refine B6 (fun hf=>?_) (fun hf=>?_)
  ·have hns:ns=[]:=C5t hf.symm
   subst hns
   refine B5o ex (by omega) (by omega) ?_
   intro A' n' c' e3 g' h' y
   refine hK _ _ _ e3 g' _ ?_
   have:A8v W [] 0++C5q W 48=pad W (nv []):=by simp [A8v,nv,pad,J8]
   rwa [this] at y
  ·refine hK _ _ _ e2 gA _ ?_
   ·have:A8v W ns 0=pad W (nv ns):=by unfold A8v;rw [if_pos (by omega)];simp
    rw [<- this];exact ex
end
theorem B5t:(prog.info? A97).map (fun i=>i.zero)=some (some (.agg (C6y 20 (.int .u8 0)))):=by kernel_rfl
theorem B8x(ns:List Nat)(c:Nat):nz (ns++[c])=nz ns++[(c:Int)]:=by simp [nz]
section
variable {h g:Heap} {K:VP} {A XA:Option Addr} {n c:Nat} {eT:TypeId} {l:List UInt8}
theorem Es{xn xc v W:Nat}(gp:Gp g)(p:Priv h g eT 1 A n c (yv l))(M:Mw g XA xn (v:Int))(hx:xn<=10000000)(hW:W<=1000000000)(hn:n<=1000000000)
 (hK:∀ A' n' c' e3 g' h',Ext g eT A n c l (pad W v) A' n' c' e3 g' h'->K (.slice A' n' c') h'):FCall prog U6 #[.slice A n c,.slice XA xn xc,I (W:Int)] h K:=by
 obtain ⟨xs,hxl,sx,dx,nx,hxv⟩:=M
 refine Rf _ _ _ _ _ _ _ ?_
 unfold Nz
 refine p.call ?_
 refine Eo sx hxl (by omega) ?_
 intro WA wc h0 g0 l0 pw h1 pt
 obtain ⟨g1,pw1,pt1⟩:=pt.swap pw
 refine ⟨_,_,_,rfl,?_⟩
 unfold Io
 have hvlt:(v:Int)<2^(64*xn):=by
  have:=L6 (B:=b64) (by decide) dx
  rw [hxv,<- hxl,Kj] at this;exact this
 refine ⟨fun s hp=>∃ (us:List Int) (ns:List Nat) (WA CA:Option Addr) (wn wc cn cc:Nat) (g1 g2 g3:Heap),s=[.slice WA wn wc,.slice CA cn cc]/\Pw hp g1 WA wn wc us/\Pw g1 g2 CA cn cc (nz ns)/\Priv g2 g3 eT 1 A n c (yv l)/\g.le g3/\wn=us.length/\cn=ns.length/\wn<=xn/\Dig b64 us/\Norm us/\(∀ c∈ns,c<10^19)/\(v:Int)=val b64 us*cB^ns.length+(nv ns:Int)/\(us=[]->ns.getLast? ≠ some 0),fun s hp=>match s with|[.slice A n _,_]=>B0m b64 hp A n|_=>0,⟨xs,[],WA,none,xs.length,wc,0,0,g1,g1,g0,rfl,pw1,Priv.nil _ _ _ _,pt1,l0,rfl,rfl,by omega,dx,nx,by simp,by simp [nv,hxv],by simp⟩,?_⟩
 rintro WA1 wn1 wc1 CA1 cn1 cc1 hp1 ⟨us,ns,WA2,CA2,wn2,wc2,cn2,cc2,g1,g2,g3,hs,pw,pc,pt,lg,hwn,hcn,hwx,du,nu,hb,hv,htop⟩
 simp only [C62,C67,and_true] at hs
 obtain ⟨⟨rfl,rfl,rfl⟩,rfl,rfl,rfl⟩:=hs
 have hu0:=C8 (B:=b64) (by decide) du
 have Mu:Mw hp1 WA1 wn1 (val b64 us):=⟨us,hwn,pw.slV,du,nu,rfl⟩
 refine B6 (fun h2=>?_) (fun h2=>?_)
 ·have hne:us≠[]:=by rintro rfl;simp at hwn;omega
  have hpos:0<val b64 us:=by
   have:=Mu.len_zero (by decide)
   omega
  have hcnb:ns.length<=64*xn:=by
   by_cases hc:ns.length<=64*xn
   ·exact hc
   ·exfalso
    have h3:(2:Int)^(64*xn)<=2^ns.length:=D3 (by decide) (by omega)
    have h4:(2:Int)^ns.length<=cB^ns.length:=by
     have:∀ k:Nat,(2:Int)^k<=cB^k:=by
      intro k
      induction k with
      | zero=>simp
      | succ k ih=>
       rw [C6e,C6e]
       exact Int.mul_le_mul ih (by decide) (by decide) (C69 (C6o (by decide)))
     exact this _
    have h5:1*cB^ns.length<=val b64 us*cB^ns.length:=C5w hpos (C69 (C6o (by decide)))
    omega
  refine C24 pw hne hwn du (by omega) ?_
  intro ws m r hp2 pw2 hm hmw nw dw hval hr
  obtain ⟨g1',pc',pw'⟩:=pw2.swap pc
  refine Dk P6 pc' rfl rfl (by omega) (by omega) ?_
  intro CA' cc' h' g' lg' pc2
  obtain ⟨g2',l2,pw3⟩:=pw'.after lg'
  obtain ⟨g4,pw4,pc4⟩:=pc2.swap pw3
  obtain ⟨g5,l5,pt5⟩:=pt.after l2
  obtain ⟨c0,hc0⟩:∃ c0:Nat,r=(c0:Int):=⟨r.toNat,by omega⟩
  have hc19:c0<10^19:=by
   have h6:r<10000000000000000000:=hr.2
   show c0<10000000000000000000
   omega
  have hw0:=C8 (B:=b64) (by decide) dw
  refine ⟨⟨ws.take m,ns++[c0],WA1,CA',m,wc1,cn1+1,cc',g4,g2',g5,rfl,pw4,?_,pt5,B0 lg l5,hm,by simp;omega,by omega,dw,nw,?_,?_,?_⟩,?_⟩
  ·have h9:=pc4
   rw [<- C80 (f:=C6c .u64),<- C7r,hc0,<- B8x] at h9
   exact h9
  ·intro c hc
   rcases List.mem_append.1 hc with h6|h6
   ·exact hb c h6
   ·rw [List.mem_singleton.1 h6];exact hc19
  ·rw [B0g,hv,hval,C5s,List.length_singleton,C6e,hc0];grind
  ·intro he
   rw [List.getLast?_append]
   simp only [List.getLast?_singleton,Option.some_or,ne_eq,C84]
   intro e0
   rw [he] at hval
   simp [val] at hval
   omega
  ·show B0m b64 h' WA1 m<B0m b64 hp1 WA1 wn1
   have Mw2:Mw h' WA1 m (val b64 (ws.take m)):=⟨ws.take m,hm,pw4.slV,dw,nw,rfl⟩
   rw [Am Mw2,Am Mu]
   have h6:1*val b64 (ws.take m)<=cB*val b64 (ws.take m):=C5w (by decide) hw0
   have h7:val b64 us=10000000000000000000*val b64 (ws.take m)+r:=by rw [hval,C68]
   omega
 ·have hnil:us=[]:=C5t (by omega)
  subst hnil
  obtain ⟨g2',pt2,pc2⟩:=pc.swap pt
  obtain ⟨g1',pt3,pw3⟩:=pw.swap pt2
  have hvn:v=nv ns:=by
   simp [val] at hv;omega
  have hcnb:ns.length<=1000000000:=by
   by_cases hc0:ns=[]
   ·subst hc0;simp
   ·have h7:=htop rfl
    obtain ⟨ms,c0,rfl⟩:∃ ms c0,ns=ms++[c0]:=⟨ns.dropLast,ns.getLast hc0,(List.dropLast_concat_getLast hc0).symm⟩
    rw [List.getLast?_append] at h7
    simp only [List.getLast?_singleton,Option.some_or,ne_eq,C84] at h7
    have h8:=B0g ms c0
    by_cases hc:ms.length<=64*xn
    ·simp;omega
    ·exfalso
     have h3:(2:Int)^(64*xn)<=2^ms.length:=D3 (by decide) (by omega)
     have h4:(2:Int)^ms.length<=cB^ms.length:=by
      have:∀ k:Nat,(2:Int)^k<=cB^k:=by
       intro k
       induction k with
       | zero=>simp
       | succ k ih=>
        rw [C6e,C6e]
        exact Int.mul_le_mul ih (by decide) (by decide) (C69 (C6o (by decide)))
      exact this _
     have h5:cB^ms.length*1<=cB^ms.length*(c0:Int):=C5u (by omega) (C69 (C6o (by decide)))
     omega
  refine Gh B5t ?_
  intro b hb0
  refine ⟨_,rfl,?_⟩
  have hz:(Value.agg (C6y 20 (.int .u8 0))).cells=(C5q 20 (C6c .u8 0)).toArray:=by rfl
  rw [hz]
  have hg1:g1' b=none:=by
   cases hx1:g1' b with
   | none=>rfl
   | some o=>rw [pt3.le b o hx1] at hb0;cases hb0
  refine B5p (ns:=ns) gp rfl ⟨eT,_,g1',⟨?_,?_,by simp,fun _=>⟨rfl,rfl,rfl⟩,id⟩,⟨by simp [yv],by simp,.inr ⟨b,C5q 20 (C6c .u8 0),rfl,hg1,rfl,by simp,by simp [yv]⟩⟩,?_,?_⟩ hcn hb (htop rfl) hW hn hcnb (by rw [<- hvn];exact hK)
  ·exact B0 lg (B0 pc2.le (B0 pw3.le (Heap.le_put _ hg1)))
  ·rw [C6i];exact pt3.put hb0 _
  ·exact B0 lg (B0 pc2.le pw3.le)
  ·exact (show SlI .u64 g2' CA1 (nz ns) from pc2.slV).mono pw3.le
end
end Go.Proofs.YtajkakhfcokljaaGreatDoor
