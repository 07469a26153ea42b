/-
  Texts of this proof, merged by a program of ours.
-/
import Derived.Test.YtajkakhfcokljaaGreatDoorG20
import Derived.Test.YtajkakhfcokljaaGreatDoorG08
import Derived.Test.YtajkakhfcokljaaGreatDoorG10
open Go.Proofs.Tryz
open _root_.Array renaming replicate->C6p
open Bool renaming false_eq_true->C71
open _root_.Go.Builtin renaming zeroCells->C6g,append_->C6o
open _root_.ByteArray renaming size->C75
open Int renaming toNat_natCast->C5i,mul_le_mul_of_nonneg_left->C5l,mul_le_mul_of_nonneg_right->C5n,emod_lt_of_pos->C5r,mul_ediv_add_emod->C5s,mul_comm->C5z,le_of_lt->C60,emod_nonneg->C61,pow_succ->C65,natCast_mul->C66,mul_nonneg->C67,pow_add->C6a,mul_lt_mul_of_pos_right->C6b,ediv_lt_of_lt_mul->C6c,ofNat_tdiv->C6d,pow_pos->C6f,ofNat_tmod->C6i,gcd_natCast_natCast->C6m,eq_ofNat_of_zero_le->C6n,mul_assoc->C6u,tmod_eq_emod_of_nonneg->C6x,tdiv_eq_ediv_of_nonneg->C6y,tdiv->C70,mul_add->C79,natCast_ediv->C7b,natCast_add->C7l,tmod->C7m,lt_of_le_of_lt->C7t,fdiv->C7u,natCast_emod->C7z,gcd->C81,ediv_nonneg->C82,mul_lt_mul_of_pos_left->C83
open List renaming replicate->C5h,length_append->C5j,eq_nil_of_length_eq_zero->C5k,take_of_length_le->C5m,getElem?_cons_zero->C5o,getElem?_cons_succ->C5p,length_take->C5q,append_assoc->C5u,drop_of_length_le->C5w,length_drop->C5x,length_replicate->C64,take_append_of_le_length->C68,append_nil->C69,take_replicate->C6j,drop_replicate->C6k,replicate_append_replicate->C6r,take_append->C6s,replicate_succ'->C6t,nil_append->C6w,drop_zero->C73,drop_eq_getElem_cons->C74,take_length->C7a,take_left'->C7g,take_append_drop->C7h,map_append->C7i,getElem?_toArray->C7j,getElem?_eq_none->C7k,mem_of_mem_take->C7o,map_singleton->C7r,getD->C7s,getElem_mem->C7x,drop_append_of_le_length->C7y,getLast?_eq_getElem?->C84
open List.cons renaming injEq->C5t
open Nat renaming min_eq_left->C5v,mul_one->C6e,sub_zero->C6l,le_refl->C6q,pow_pos->C6v,lt_of_lt_of_le->C6z,gcd->C72,one_mul->C76,add_sub_cancel_left->C77,add_mul->C78,zero_add->C7c,mul_comm->C7d,le_trans->C7e,div_add_mod->C7f,pow_le_pow_right->C7n,pow_add->C7p,mul_assoc->C7q,min_eq_right->C7w,div_le_self->C80
open Nat.Coprime renaming gcd_mul_left_cancel_right->C6h
open Option.some renaming injEq->C7v
open _root_.Go.Value renaming int->C63
open _root_.Go.Value.int renaming injEq->C62
open _root_.Go.Value.slice renaming injEq->C5y
namespace Go.Proofs.YtajkakhfcokljaaGreatDoor
set_option linter.all false
set_option maxRecDepth 20000
open Go
theorem A4n{x a b p:Int}(h:a+p*b=x)(h0:0<=a)(h1:a<p):x/p=b/\x%p=a:=(Int.ediv_emod_unique (by omega)).2 ⟨h,h0,h1⟩
theorem Ve{P:Program}{h:Heap}{A:Option Addr}{n m c s:Nat}{cs:List Value}(hl:cs.length=n*s)(hc:cs=[]\/∃ a,A=some a/\∀ j v,cs[j]? = some v->h.cell? (a.add j)=some v){K:Array Value->Heap->Prop}(x:K cs.toArray h):
 wpH P (Builtin.firstCells s n (.slice A m c)) K h:=by
 cases A with
 | none=>
  rcases hc with rfl|⟨a,e,_⟩
  ·exact x
  ·cases e
 | some a=>
  show wpH P (loadCells a (n*s)) K h
  rcases hc with rfl|⟨a',e,hc⟩
  ·exact T6 (cs:=[]) hl.symm (fun j v e=>by simp at e) x
  ·cases e
   exact T6 hl.symm hc x
theorem B58{P:Program}{t e ty:TypeId}{k:IntKind}{bytes:Nat}(s:SliceT P t e (.int k 0) 1 bytes){h g:Heap}{b:Nat}{A:Option Addr}{pre post:List Value}{xs:List Int}{n c m d:Nat}(w:Win k h g b e A pre xs post)(hn:n=xs.length){B:Option Addr}{ys:List Int}(sy:SlI k h B ys)(hm:min m xs.length=ys.length){K:VP}
 (x:∀ h',Win k h' g b e A pre (ys++xs.drop ys.length) post->K (I ys.length) h'):wpH P (Builtin.copy_ #[t,t] ty #[.slice A n c,.slice B m d]) K h:=by
 subst hn
 have hle:ys.length<=xs.length:=by omega
 obtain ⟨i,hi,hz,hsz,hby⟩:=s.parts
 unfold Builtin.copy_
 simp only [C7j,C5o,C5p,C7,E8 s.und,L3 hi,G2,Builtin.lenOf,hsz]
 have hmin:Nat.min m xs.length=ys.length:=hm
 rw [hmin]
 refine Ve (s:=1) (cs:=ys.map (C63 k)) (by simp) sy ?_
 cases A with
 | none=>
  rcases w.at_ with h0|h0
  ·subst h0
   have:ys=[]:=C5k (by simpa using hle)
   subst this
   exact x h (by simpa using w)
  ·cases h0
 | some a=>
  simp only [C7]
  rcases w.at_ with h0|h0
  ·subst h0
   have:ys=[]:=C5k (by simpa using hle)
   subst this
   exact x h (by simpa using w)
  ·cases h0
   rw [w.eq]
   refine J1 (ys.map (C63 k)) pre.length 0 (pre++xs.map (C63 k)++post) (by simp;omega) (fun v hv=>?_) ?_
   ·obtain ⟨u,_,rfl⟩:=List.mem_map.1 hv;rfl
   ·refine x _ ⟨w.free,?_,?_⟩
    ·congr 3
     unfold K5
     rw [Nat.add_zero,C5u pre,C7g rfl,List.length_map]
     rw [List.drop_append,C5w (show pre.length<=pre.length+ys.length by omega),C77,C6w]
     rw [C7y (by simpa using hle),<- List.map_drop,C7i]
     simp only [C5u]
    ·right;rfl
section
variable {h g:Heap} {K:VP} {A B:Option Addr} {ac bc:Nat}
theorem B6k(a n:Nat):(if (a:Int)<(n:Int) then (a:Int) else (n:Int))=((min n a:Nat):Int):=by split<;>omega
theorem Kr{xs:List Int}(d:Dig b64 xs)(n:Nat):val b64 xs/b64^n=val b64 (xs.drop (min n xs.length))/\val b64 xs%b64^n=val b64 (xs.take (min n xs.length)):=by
 by_cases hn:n<=xs.length
 ·rw [C5v hn]
  have h1:=F6 b64 xs hn
  have h2:=C8 (by decide) (d.take n)
  have h3:=L5 (by decide) (d.take n)
  rw [C5q,C5v hn] at h3
  exact A4n h1.symm h2 h3
 ·rw [C7w (by omega),List.drop_length,C7a]
  have h2:=C8 (by decide) d
  have h3:=L5 (by decide) d
  have h4:=D3 (B:=b64) (by decide) (show xs.length<=n by omega)
  exact A4n (by simp [val]) h2 (by omega)
theorem Y6{x:Int}{an n:Nat}(ma:Mw h A an x)(ha:an<=ac)(hK:∀ A' m c',m<=c'->m<=an->Mw h A' m (x/b64^n)->K (.slice A' m c') h):FCall prog T2 #[.slice A an ac,I n] h K:=by
 obtain ⟨xs,rfl,sx,dx,nx,rfl⟩:=ma
 refine A02 _ _ _ _ ?_
 unfold Wx
 rw [B6k,C5i]
 refine ⟨⟨by omega,by omega⟩,hK _ _ _ (by omega) (by omega) ?_⟩
 rw [(Kr dx n).1,<- C5x]
 refine Mw.of (Zu sx (by omega) ha) (dx.drop _) ?_
 by_cases hk:min n xs.length<xs.length
 ·exact Lp nx hk
 ·rw [C5w (by omega)];exact Norm.nil
theorem Fg{x:Int}{an n:Nat}(ma:Mw h A an x)(ha:an<=ac)(hl:an<=10000000000)(hK:∀ A' m c',m<=c'->m<=n->m<=an->Mw h A' m (x%b64^n)->K (.slice A' m c') h):FCall prog Cg #[.slice A an ac,I n] h K:=by
 obtain ⟨xs,rfl,sx,dx,nx,rfl⟩:=ma
 refine A2m _ _ _ _ ?_
 unfold A2n
 rw [B6k,C5i,I4,C6l,C6l]
 refine ⟨⟨by omega,by omega⟩,Bf (Jb sx (m:=min n xs.length) (by omega) ha) (dx.take _) (by rw [C5q];omega) (Kr dx n).2.symm (by omega) (by omega) ?_⟩
 intro m hm M
 exact ⟨_,_,_,rfl,hK _ _ _ (by omega) (by omega) (by omega) M⟩
theorem Hd{x y:Int}{an bn n:Nat}(ma:Mw h A an x)(mb:Mw h B bn y)(hbn:bn<=n)(hl:n+an<=5000000000)(hK:∀ A' m c' h',h.le h'->m<=c'->Mw h' A' m (x*b64^n+y)->K (.slice A' m c') h'):FCall prog Kg #[.slice A an ac,.slice B bn bc,I n] h K:=by
 obtain ⟨xs,rfl,sx,dx,nx,rfl⟩:=ma
 obtain ⟨ys,rfl,sy,dy,ny,rfl⟩:=mb
 refine B5m _ _ _ _ _ _ _ ?_
 unfold C1z
 have e1:B5 ((n:Int)+xs.length)=((n+xs.length:Nat):Int):=by rw [B7 (by omega) (by omega)];omega
 rw [e1]
 refine K0 P7 (by omega) (by omega) (by omega) ?_
 intro b hb
 rw [C5i]
 refine ⟨_,_,_,rfl,?_⟩
 have w0:=Win.blk .u64 C1 hb (C5h (n+xs.length) 0)
 refine Fy P7 w0 (by simp) (sy.mono w0.le) rfl (by simp;omega) ?_
 intro h1 w1
 refine ⟨_,rfl,⟨by omega,by omega⟩,?_⟩
 rw [C6k] at w1
 generalize hz:ys++C5h (n+xs.length-ys.length) (0:Int)=zs at w1
 have hzl:zs.length=n+xs.length:=by rw [<- hz];simp;omega
 have w2:=w1.sub (l:=n) (m:=n+xs.length) (c:=n+xs.length) (by omega) (by omega) (by omega)
 rw [C5i]
 refine Fy P7 w2 (by rw [C5q,C5x];omega) (sx.mono w1.le) rfl (by rw [C5q,C5x];omega) ?_
 intro h2 w3
 rw [C5w (by rw [C5q,C5x];omega),C69] at w3
 have w4:=w1.whole (l:=n) (m:=n+xs.length) (by omega) (by omega) (by omega) w3
 rw [C5w (show zs.length<=n+xs.length by omega),C69] at w4
 have hzt:zs.take n=ys++C5h (n-ys.length) 0:=by
  rw [<- hz,C6s,C5m (by omega),C6j]
  congr 2;omega
 rw [hzt] at w4
 refine ⟨_,rfl,Bf w4.sl ((dy.append (I5 (by decide) _)).append dx) (by simp;omega) rfl (by omega) (by omega) ?_⟩
 intro m hm M
 refine ⟨_,_,_,rfl,hK _ _ _ _ w4.le hm ?_⟩
 rw [G7,Cr] at M
 have e:(ys++C5h (n-ys.length) (0:Int)).length=n:=by simp;omega
 rw [e] at M
 have e2:val b64 xs*b64^n+val b64 ys=val b64 ys+b64^n*val b64 xs:=by rw [C5z];omega
 rw [e2];exact M
theorem B9g{x y:Int}(hx:0<=x/\x<18446744073709551616)(hy:0<=y/\y<18446744073709551616)(hK:K (.tuple #[U (x*y/18446744073709551616),U (x*y%18446744073709551616)]) h):FCall prog B18 #[U x,U y] h K:=by
 refine C08 _ _ ?_
 unfold C56
 exact Lq hx hy ⟨_,_,rfl,hK⟩
theorem A41{v:Int}{n:Nat}(s:SlI .u64 h A [v])(hn:0<n)(hl:n<=1000000000)(hK:∀ A' h',h.le h'->SlI .u64 h' A' (C5h n v)->K (.slice A' n n) h'):FCall prog Te #[.slice A 1 ac,I n] h K:=by
 refine A8b _ _ _ _ ?_
 unfold B2c
 refine B6 (fun h1=>by omega) (fun _=>?_)
 rw [C2 (n:=((1:Nat):Int)) (by omega) (by omega),C2 (n:=(n:Int)) (by omega) (by omega)]
 refine B9g (by omega) (by omega) ⟨_,_,rfl,?_⟩
 have e1:((1:Nat):Int)*(n:Int)/18446744073709551616=0:=by omega
 have e2:((1:Nat):Int)*(n:Int)%18446744073709551616=n:=by omega
 rw [e1,e2]
 refine B6 (fun h1=>by omega) (fun _=>?_)
 refine B6 (fun h1=>by omega) (fun _=>?_)
 rw [B7 (n:=(n:Int)) (by omega) (by omega)]
 refine K0 P7 (by omega) (by omega) (by omega) ?_
 intro b hb
 rw [C5i]
 refine ⟨_,_,_,rfl,?_⟩
 have w0:=Win.blk .u64 C1 hb (C5h n 0)
 refine Fy P7 w0 (by simp) (s.mono w0.le) rfl (by simp;omega) ?_
 intro h1 w1
 refine ⟨_,rfl,?_⟩
 rw [C6k] at w1
 refine ⟨fun l hp=>∃ k:Nat,l=[I k]/\0<k/\k<=n/\Win .u64 hp h b C1 (some ⟨b,0,none⟩) [] (C5h k v++C5h (n-k) 0) [],fun l _=>n-(iAt l 0).toNat,⟨1,rfl,by omega,hn,w1⟩,?_⟩
 rintro i hp ⟨k,hli,hk0,hkn,w⟩
 obtain rfl:=sI1 hli
 refine B6 (fun h2=>?_) (fun h2=>?_)
 ·have hzl:(C5h k v++C5h (n-k) (0:Int)).length=n:=by simp;omega
  refine ⟨⟨by omega,by omega⟩,⟨by omega,by omega⟩,?_⟩
  simp only [C5i,I4,C6l]
  have w2:=w.sub (l:=k) (m:=n) (c:=n) (by omega) (by omega) (by omega)
  have e3:((C5h k v++C5h (n-k) (0:Int)).drop k).take (n-k)=C5h (n-k) 0:=by
   rw [List.drop_left' (by simp),C5m (by simp)]
  rw [e3] at w2
  have s2:SlI .u64 hp (some ⟨b,0,none⟩) (C5h (min k (n-k)) v):=by
   have:=Jb w.sl (c:=n) (m:=min k (n-k)) (by omega) (by omega)
   rwa [C68 (by simp;omega),C6j,C5v (by omega)] at this
  refine B58 P7 w2 (by simp) s2 (by simp) ?_
  intro h3 w3
  rw [C64] at w3 ⊢
  have w4:=w.whole (l:=k) (m:=n) (by omega) (by omega) (by simp;omega) w3
  have e4:B5 ((k:Int)+(min k (n-k):Nat))=((k+min k (n-k):Nat):Int):=by rw [B7 (by omega) (by omega)];omega
  refine ⟨_,rfl,?_⟩
  rw [e4]
  refine ⟨⟨_,rfl,by omega,by omega,?_⟩,?_⟩
  ·have e5:(C5h k v++C5h (n-k) (0:Int)).take k++(C5h (min k (n-k)) v++(C5h (n-k) (0:Int)).drop (min k (n-k)))++(C5h k v++C5h (n-k) (0:Int)).drop n=C5h (k+min k (n-k)) v++C5h (n-(k+min k (n-k))) 0:=by
    rw [C7g (by simp),C5w (show (C5h k v++C5h (n-k) (0:Int)).length<=n by omega),C69,C6k,<- C5u,C6r]
    congr 2;omega
   rw [e5] at w4
   exact w4
  ·simp only [iAt,C5o];omega
 ·have hkn:k=n:=by omega
  subst hkn
  have:=w.sl
  rw [Nat.sub_self,List.replicate_zero,C69] at this
  exact hK _ _ w.le this
end
theorem Mw.high{h:Heap}{A:Option Addr}{an ac k:Nat}{x:Int}(ma:Mw h A an x)(ha:an<=ac)(hk:k<=an):Mw h (L0 A ac k 1) (an-k) (x/b64^k):=by
 obtain ⟨xs,rfl,sx,dx,nx,rfl⟩:=ma
 have e:=(Kr dx k).1
 rw [C5v hk] at e
 rw [e,<- C5x]
 refine Mw.of (Zu sx hk ha) (dx.drop _) ?_
 by_cases hk2:k<xs.length
 ·exact Lp nx hk2
 ·rw [C5w (by omega)];exact Norm.nil
theorem B41{x P X2 yh top:Int}(hP:0<P)(h1:x<P*P*(X2+1))(h2:P*top<=x)(hlt:X2<yh):top<P*yh:=by
 by_cases hc:top<P*yh
 ·exact hc
 ·have t1:P*(P*yh)<=P*top:=C5l (by omega) (by omega)
  have t2:P*P*(X2+1)<=P*P*yh:=C5l (by omega) (C67 (by omega) (by omega))
  rw [C6u P P yh] at t2
  omega
theorem B42{x P X2 yh top:Int}(hP:0<P)(h1:P*P*X2<=x)(h2:x<P*(top+1))(hge:yh<=X2):P*yh<=top:=by
 by_cases hc:P*yh<=top
 ·exact hc
 ·have t1:P*(top+1)<=P*(P*yh):=C5l (by omega) (by omega)
  have t2:P*P*yh<=P*P*X2:=C5l (by omega) (C67 (by omega) (by omega))
  rw [C6u P P yh] at t2
  omega
def B7u(N:Nat):Prop:=∀ {h:Heap} {K:VP} {A B:Option Addr} {ac bc an bn:Nat} {x y:Int},bn<=N->Mw h A an x->Mw h B bn y->an<=ac->bn<=bc->an<=1000000000->bn<=200000000->0<bn->9223372036854775808*b64^(bn-1)<=y->x<b64^bn*y->
 (∀ A1 m1 c1 A2 m2 c2 h',h.le h'->m1<=c1->m2<=c2->Mw h' A1 m1 (x/y)->Mw h' A2 m2 (x%y)->K (.tuple #[.slice A1 m1 c1,.slice A2 m2 c2]) h')->FCall prog U2 #[.slice A an ac,.slice B bn bc] h K
section
variable {h g:Heap} {K:VP} {A B:Option Addr} {ac bc:Nat}
theorem Cw{x y:Int}:Ux x y<0↔x<y:=by
 unfold Ux
 by_cases h1:x<y
 ·rw [if_pos h1];simp [h1]
 ·rw [if_neg h1]
  by_cases h2:x>y
  ·rw [if_pos h2];simp [h1]
  ·rw [if_neg h2];simp [h1]
set_option maxHeartbeats 1000000 in
theorem A3s{x y q0 R0 pr:Int}{m bn nq cq np cp nr cr:Nat}{Aq Ap Ar:Option Addr}(hx0:0<=x)(mb:Mw h B bn y)(hb:bn<=bc)(hl2:bn<=200000000)(hbm:bn=2*m)(mq:Mw h Aq nq q0)(hq:nq<=cq)(mp:Mw h Ap np pr)(hp2:pr<b64^bn)
 (mr:Mw h Ar nr R0) (hr:nr<=cr) (hq0:q0<b64^m) (hR:R0-pr=x-q0*y) (hy:x-q0*y<y)
 (hK:∀ A1 m1 c1 A2 m2 c2 h',h.le h'->m1<=c1->m2<=c2->Mw h' A1 m1 (x/y)->Mw h' A2 m2 (x%y)->K (.tuple #[.slice A1 m1 c1,.slice A2 m2 c2]) h'):
 Ao prog B bn bc K Aq nq cq Ap np cp Ar nr cr h:=by
 have hyB:=mb.lt (by decide)
 have hy0:=mb.nonneg (by decide)
 have hp0:=mp.nonneg (by decide)
 unfold Ao
 refine ⟨fun l hp=>∃ (Aq Ar:Option Addr) (nq cq nr cr:Nat) (q R:Int),l=[.slice Aq nq cq,.slice Ar nr cr]/\h.le hp/\Mw hp Aq nq q/\nq<=cq/\Mw hp Ar nr R/\nr<=cr/\q<b64^m/\R-pr=x-q*y/\x-q*y<y,fun l hp=>match l with|[.slice A n _,_]=>B0i b64 hp A n|_=>0,⟨_,_,_,_,_,_,_,_,rfl,B4 h,mq,hq,mr,hr,hq0,hR,hy⟩,?_⟩
 rintro A1 n1 c1 A2 n2 c2 hp ⟨Aq,Ar,nq,cq,nr,cr,q,R,hl,lh,mq,hq,mr,hr,hq0,hR,hy⟩
 simp only [C5t,C5y,and_true] at hl
 obtain ⟨⟨rfl,rfl,rfl⟩,rfl,rfl,rfl⟩:=hl
 have hnr:n2<=bn+1:=mr.len_le (by decide) (by
  rw [C65]
  show R<b64^bn*18446744073709551616
  omega)
 have hnq:n1<=m:=mq.len_le (by decide) hq0
 refine J0 mr (mp.mono lh) (by omega) ⟨_,rfl,?_⟩
 refine B6 (fun h1=>?_) (fun h1=>?_)
 ·rw [Cw] at h1
  have hq1:=mq.nonneg (by decide)
  have hq2:1<=q:=by
   by_cases hc:1<=q
   ·exact hc
   ·obtain rfl:q=0:=by omega
    omega
  refine R7 mr (mb.mono lh) hr hb (by omega) (by omega) ?_
  intro A3 n3 c3 h3 l3 k3 M3
  refine ⟨_,_,_,rfl,Al P7 rfl ?_⟩
  intro b hb'
  refine ⟨_,_,_,rfl,?_⟩
  have l4:=Heap.le_put (.cells #[U 1] C1) hb'
  have M1:Mw (h3.put b (.cells #[U 1] C1)) (some ⟨b,0,none⟩) 1 1:=⟨[1],rfl,SlI.new h3 b [1] C1 _,Dig.one (by decide),by simp [Norm],V1 _ _⟩
  refine H8 ((mq.mono l3).mono l4) M1 hq (by omega) hq2 ?_
  intro A5 n5 c5 h5 l5 k5 M5
  refine ⟨_,_,_,rfl,⟨_,_,_,_,_,_,_,_,rfl,B0 lh (B0 l3 (B0 l4 l5)),M5,k5,(M3.mono l4).mono l5,k3,by omega,?_,?_⟩,?_⟩
  ·rw [Int.sub_mul];omega
  ·rw [Int.sub_mul];omega
  ·simp only [Ak M5,Ak mq];omega
 ·rw [Cw] at h1
  refine H8 mr (mp.mono lh) hr (by omega) (by omega) ?_
  intro A3 n3 c3 h3 l3 k3 M3
  obtain ⟨d1,d2⟩:=A4n (x:=x) (a:=R-pr) (b:=q) (p:=y) (by rw [hR,C5z y];omega) (by omega) (by omega)
  refine ⟨_,_,_,rfl,hK _ _ _ _ _ _ _ (B0 lh l3) hq k3 ?_ ?_⟩
  ·rw [d1];exact mq.mono l3
  ·rw [d2];exact M3
set_option maxHeartbeats 1000000 in
theorem Rv{N:Nat}(ih:B7u N){x y:Int}{an bn m:Nat}(hm:0<m)(hN:m<=N)(hbm:bn=2*m)(ma:Mw h A an x)(mb:Mw h B bn y)(ha:an<=ac)(hb:bn<=bc)(hl:an<=1000000000)(hl2:bn<=200000000)(htop:9223372036854775808*b64^(bn-1)<=y)(hxy:x<b64^m*y)
 (hK:∀ A1 m1 c1 A2 m2 c2 h',h.le h'->m1<=c1->m2<=c2->Mw h' A1 m1 (x/y)->Mw h' A2 m2 (x%y)->K (.tuple #[.slice A1 m1 c1,.slice A2 m2 c2]) h'):FCall prog U1 #[.slice A an ac,.slice B bn bc] h K:=by
 have hx0:=ma.nonneg (by decide)
 have hy0:=mb.nonneg (by decide)
 have hyB:=mb.lt (by decide)
 have hP:=D7 (B:=b64) (by decide) m
 have hPP:b64^bn=b64^m*b64^m:=by rw [<- C6a];congr 1;omega
 have hPP2:b64^(2*m)=b64^m*b64^m:=by rw [<- C6a];congr 1;omega
 have hPt:b64^(bn-1)=b64^m*b64^(m-1):=by rw [<- C6a];congr 1;omega
 have hyh:=mb.high (k:=m) hb (by omega)
 rw [show bn-m=m by omega] at hyh
 have hyh0:=hyh.nonneg (by decide)
 have hyhB:=hyh.lt (by decide)
 have dy:b64^m*(y/b64^m)+y%b64^m=y:=C5s _ _
 have dy1:=C61 y (b:=b64^m) (by omega)
 have dy2:=C5r y hP
 have dx:b64^m*(x/b64^m)+x%b64^m=x:=C5s _ _
 have dx1:=C61 x (b:=b64^m) (by omega)
 have dx2:=C5r x hP
 have hPm:=D7 (B:=b64) (by decide) (m-1)
 have hyt:9223372036854775808*b64^(m-1)<=y/b64^m:=by
  by_cases hc:9223372036854775808*b64^(m-1)<=y/b64^m
  ·exact hc
  ·have t1:b64^m*(y/b64^m+1)<=b64^m*(9223372036854775808*b64^(m-1)):=C5l (by omega) (by omega)
   have t2:b64^m*(9223372036854775808*b64^(m-1))=9223372036854775808*(b64^m*b64^(m-1)):=by grind
   rw [hPt] at htop
   rw [C79] at t1
   omega
 obtain ⟨ys,hys,sy,dys,nys,rfl⟩:=mb
 have mb:Mw h B bn (val b64 ys):=⟨ys,hys,sy,dys,nys,rfl⟩
 generalize hyv:val b64 ys=y at *
 refine Qw _ _ _ _ _ _ ?_
 unfold Np
 have eh:B5 (C70 ((bn:Nat):Int) 2)=(m:Int):=by rw [C6y (by omega),B7 (by omega) (by omega)];omega
 have e2h:B5 (2*(m:Int))=((2*m:Nat):Int):=by rw [B7 (by omega) (by omega)];omega
 simp only [eh,e2h,C5i,C6l,I4]
 rw [show bn-m=m by omega]
 refine ⟨⟨by omega,by omega⟩,⟨by omega,by omega⟩,Bf (Jb sy (m:=m) (c:=bc) (by omega) (by omega)) (dys.take m) (by rw [C5q];omega) rfl (by omega) (by omega) ?_⟩
 intro yn hyn Myl
 have eyl:=(Kr dys m).2
 rw [C5v (by omega),hyv] at eyl
 rw [<- eyl] at Myl
 refine ⟨_,_,_,rfl,B4 h,Y6 ma ha ?_⟩
 intro A1 n1 c1 k1 k1' M1
 refine ⟨_,_,_,rfl,?_⟩
 have ht0:=M1.nonneg (by decide)
 refine ⟨fun l hp=>∃ (Aq Ar:Option Addr) (nq cq nr cr:Nat) (q r:Int),l=[.slice Aq nq cq,.slice Ar nr cr]/\h.le hp/\Mw hp Aq nq q/\nq<=cq/\Mw hp Ar nr r/\nr<=cr/\q<b64^m/\x/b64^m=q*(y/b64^m)+r/\x-q*y<y,?_,?_⟩
 ·refine Y6 ma ha ?_
  intro A2 n2 c2 k2 k2' M2
  refine ⟨_,_,_,rfl,J0 M2 hyh (by omega) ⟨_,rfl,?_⟩⟩
  have x2a:b64^(2*m)*(x/b64^(2*m))+x%b64^(2*m)=x:=C5s _ _
  have x2b:=C61 x (b:=b64^(2*m)) (by have:=D7 (B:=b64) (by decide) (2*m);omega)
  have x2c:=C5r x (D7 (B:=b64) (by decide) (2*m))
  generalize x/b64^(2*m)=X2 at *
  rw [hPP2] at x2a x2b x2c
  refine B6 (fun h1=>?_) (fun h1=>?_)
  ·rw [Cw] at h1
   have ht:=B41 (x:=x) (top:=x/b64^m) hP (by rw [C79];omega) (by omega) h1
   refine ih hN M1 hyh k1 (by omega) (by omega) (by omega) hm hyt ht ?_
   intro A3 n3 c3 A4 n4 c4 h3 l3 k3 k4 M3 M4
   have hyp:0<y/b64^m:=by omega
   have d1:=C5s (x/b64^m) (y/b64^m)
   have d2:=C5r (x/b64^m) hyp
   have d0:=M3.nonneg (by decide)
   refine ⟨_,_,_,_,_,_,rfl,_,_,_,_,_,_,_,_,rfl,l3,M3,k3,M4,k4,C6c hyp ht,by rw [C5z];omega,?_⟩
   generalize (x/b64^m)/(y/b64^m)=q at *
   generalize (x/b64^m)%(y/b64^m)=r at *
   generalize x/b64^m=top at *
   generalize y/b64^m=yh at *
   generalize y%b64^m=yl at *
   generalize x%b64^m=xl at *
   generalize b64^m=P at *
   have t1:P*(r+1)<=P*yh:=C5l (by omega) (by omega)
   have t2:x-q*y=P*r+xl-q*yl:=by rw [<- dx,<- dy,<- d1];grind
   have t3:=C67 d0 dy1
   rw [C79] at t1
   omega
  ·rw [Cw] at h1
   have ht:=B42 (x:=x) (top:=x/b64^m) (yh:=y/b64^m) (X2:=X2) hP (by omega) (by rw [C79];omega) (by omega)
   refine Al P7 rfl ?_
   intro b hb'
   refine ⟨_,_,_,rfl,?_⟩
   have l4:=Heap.le_put (.cells #[U 18446744073709551615] C1) hb'
   refine A41 (v:=18446744073709551615) (SlI.new h b [18446744073709551615] C1 _) hm (by omega) ?_
   intro A5 h5 l5 s5
   refine ⟨_,_,_,rfl,?_⟩
   have l45:=B0 l4 l5
   refine Hd (hyh.mono l45) (Mag.zero (k:=.u64) (B:=b64)) (by omega) (by omega) ?_
   intro A6 n6 c6 h6 l6 k6 M6
   refine ⟨_,_,_,rfl,?_⟩
   have l46:=B0 l45 l6
   refine H8 (M1.mono l46) M6 k1 (by omega) (by rw [C5z];omega) ?_
   intro A7 n7 c7 h7 l7 k7 M7
   have hn7:n7<=an:=M7.len_le (by decide) (by
    have:=ma.lt (by decide)
    have t1:=C67 hyh0 (C60 hP)
    have t2:1*(x/b64^m)<=b64^m*(x/b64^m):=C5n (by omega) ht0
    omega)
   refine ⟨_,_,_,rfl,?_⟩
   refine R7 M7 ((hyh.mono l46).mono l7) k7 (by omega) (by omega) (by omega) ?_
   intro A8 n8 c8 h8 l8 k8 M8
   have hrep:∀ j:Nat,val b64 (C5h j 18446744073709551615)=b64^j-1:=by
    intro j
    induction j with
    | zero=>rfl
    | succ j ihj=>
     rw [List.replicate_succ,val,ihj,C65]
     show (18446744073709551615:Int)+18446744073709551616*(b64^j-1)=b64^j*18446744073709551616-1
     omega
   have M5:Mw h5 A5 m (b64^m-1):=by
    refine ⟨C5h m 18446744073709551615,by simp,s5,?_,?_,hrep m⟩
    ·intro z hz
     have:=List.eq_of_mem_replicate hz
     subst this;decide
    ·obtain ⟨j,rfl⟩:∃ j,m=j+1:=⟨m-1,by omega⟩
     unfold Norm
     rw [C6t]
     simp
   refine ⟨_,_,_,rfl,_,_,_,_,_,_,_,_,rfl,B0 l46 (B0 l7 l8),((M5.mono l6).mono l7).mono l8,C6q _,M8,k8,by omega,?_,?_⟩
   ·grind
   ·have:(b64^m-1)*y=b64^m*y-y:=by grind
    omega
 ·rintro Aq' nq' cq' Ar' nr' cr' hp ⟨Aq,Ar,nq,cq,nr,cr,q,r,hli,lh,mq,hq,mr,hr,hqP,htq,hqy⟩
  simp only [C5t,C5y,and_true] at hli
  obtain ⟨⟨rfl,rfl,rfl⟩,rfl,rfl,rfl⟩:=hli
  have hq0:=mq.nonneg (by decide)
  have hr0:=mr.nonneg (by decide)
  have hnq:nq'<=m:=mq.len_le (by decide) hqP
  have hnr:nr'<=an:=mr.len_le (by decide) (by
   have:=ma.lt (by decide)
   have t1:=C67 hq0 hyh0
   have t2:1*(x/b64^m)<=b64^m*(x/b64^m):=C5n (by omega) ht0
   omega)
  refine H9 mq (Myl.mono lh) hq (by omega) (by omega) (by omega) ?_
  intro A3 n3 c3 h3 l3 k3 M3
  refine ⟨_,_,_,rfl,Fg (ma.mono (B0 lh l3)) ha (by omega) ?_⟩
  intro A4 n4 c4 k4 k4' k4'' M4
  refine ⟨_,_,_,rfl,Hd (mr.mono l3) M4 k4' (by omega) ?_⟩
  intro A5 n5 c5 h5 l5 k5 M5
  have l05:=B0 lh (B0 l3 l5)
  refine ⟨_,_,_,rfl,A3s (q0:=q) (m:=m) hx0 (mb.mono l05) hb hl2 hbm ((mq.mono l3).mono l5) hq (M3.mono l5) ?_ M5 k5 hqP ?_ hqy ?_⟩
  ·rw [hPP]
   have t1:q*(y%b64^m)<=q*b64^m:=C5l (by omega) hq0
   have t2:q*b64^m<b64^m*b64^m:=C6b hqP hP
   omega
  ·generalize x/b64^m=top at *
   generalize y/b64^m=yh at *
   generalize y%b64^m=yl at *
   generalize x%b64^m=xl at *
   generalize b64^m=P at *
   rw [<- dx,<- dy,htq];grind
  ·intro A6 n6 c6 A7 n7 c7 h7 l7 k6 k7 M6 M7
   exact hK _ _ _ _ _ _ _ (B0 l05 l7) k6 k7 M6 M7
end
set_option maxHeartbeats 1000000 in
theorem C16:∀ N,B7u N:=by
 intro N
 induction N with
 | zero=>intro h K A B ac bc an bn x y h1 _ _ _ _ _ _ h2;omega
 | succ N ih=>
  intro h K A B ac bc an bn x y hN ma mb ha hb hl hl2 hb0 htop hxy hK
  have hx0:=ma.nonneg (by decide)
  have hy0:=mb.nonneg (by decide)
  have hyp:0<y:=by
   have:=D7 (B:=b64) (by decide) (bn-1);omega
  refine Qy _ _ _ _ _ _ ?_
  unfold Nr
  have simple:FCall prog J3 #[.slice A an ac,.slice B bn bc] h (fun r hp=>∃ (t22aA:Option Addr) (t22an:Nat) (t22ac:Nat) (t22bA:Option Addr) (t22bn:Nat) (t22bc:Nat),r= .tuple #[.slice t22aA t22an t22ac,.slice t22bA t22bn t22bc]/\K (.tuple #[.slice t22aA t22an t22ac,.slice t22bA t22bn t22bc]) hp):=by
   refine Ec ma mb ha hb (by omega) hl (by omega) ?_
   intro A1 m1 c1 A2 m2 c2 h' l k1 k2 M1 M2
   exact ⟨_,_,_,_,_,_,rfl,hK _ _ _ _ _ _ _ l k1 k2 M1 M2⟩
  refine B6 (fun h1=>simple) (fun h1=>?_)
  refine N7 (fun h2=>simple) (fun h2=>?_)
  rw [C6x (by omega)] at h2
  obtain ⟨m,hbm⟩:∃ m,bn=2*m:=⟨bn/2,by omega⟩
  have eh:B5 (C70 ((bn:Nat):Int) 2)=(m:Int):=by rw [C6y (by omega),B7 (by omega) (by omega)];omega
  simp only [eh]
  have hP:=D7 (B:=b64) (by decide) m
  have hPP:b64^bn=b64^m*b64^m:=by rw [<- C6a];congr 1;omega
  have dx:b64^m*(x/b64^m)+x%b64^m=x:=C5s _ _
  have dx1:=C61 x (b:=b64^m) (by omega)
  have dx2:=C5r x hP
  rw [hPP] at hxy
  refine Y6 ma ha ?_
  intro A1 n1 c1 k1 k1' M1
  refine ⟨_,_,_,rfl,?_⟩
  have ht:x/b64^m<b64^m*y:=by
   by_cases hc:x/b64^m<b64^m*y
   ·exact hc
   ·have t1:b64^m*(b64^m*y)<=b64^m*(x/b64^m):=C5l (by omega) (by omega)
    rw [C6u] at hxy
    omega
  refine Rv ih (by omega) (by omega) hbm M1 mb k1 hb (by omega) hl2 htop ht ?_
  intro A2 n2 c2 A3 n3 c3 h3 l3 k2 k3 M2 M3
  refine ⟨_,_,_,_,_,_,rfl,Fg (ma.mono l3) ha (by omega) ?_⟩
  intro A4 n4 c4 k4 k4' k4'' M4
  have d1:=C5s (x/b64^m) y
  have d2:=C5r (x/b64^m) hyp
  have d3:=C61 (x/b64^m) (b:=y) (by omega)
  have hq1:x/b64^m/y<b64^m:=C6c hyp ht
  have hn3:n3<=bn:=M3.len_le (by decide) (by have:=mb.lt (by decide);omega)
  have hn2:n2<=m:=M2.len_le (by decide) hq1
  refine ⟨_,_,_,rfl,Hd M3 M4 k4' (by omega) ?_⟩
  intro A5 n5 c5 h5 l5 k5 M5
  refine ⟨_,_,_,rfl,?_⟩
  have hj:(x/b64^m)%y*b64^m+x%b64^m<b64^m*y:=by
   have t1:b64^m*((x/b64^m)%y+1)<=b64^m*y:=C5l (by omega) (by omega)
   rw [C79,C5z] at t1
   omega
  have hn5:n5<=bn+m:=M5.len_le (by decide) (by
   have t1:b64^m*y<b64^m*b64^bn:=C83 (mb.lt (by decide)) hP
   rw [Nat.add_comm,C6a];omega)
  refine Rv ih (by omega) (by omega) hbm M5 (mb.mono (B0 l3 l5)) k5 hb (by omega) hl2 htop hj ?_
  intro A6 n6 c6 A7 n7 c7 h7 l7 k6 k7 M6 M7
  have hn6:n6<=m:=M6.len_le (by decide) (C6c hyp hj)
  refine ⟨_,_,_,_,_,_,rfl,Hd ((M2.mono l5).mono l7) M6 hn6 (by omega) ?_⟩
  intro A8 n8 c8 h8 l8 k8 M8
  refine ⟨_,_,_,rfl,?_⟩
  have e1:=C5s ((x/b64^m)%y*b64^m+x%b64^m) y
  have e2:=C5r ((x/b64^m)%y*b64^m+x%b64^m) hyp
  have e3:=C61 ((x/b64^m)%y*b64^m+x%b64^m) (b:=y) (by omega)
  have M7':=M7.mono l8
  have l08:=B0 l3 (B0 l5 (B0 l7 l8))
  generalize ((x/b64^m)%y*b64^m+x%b64^m)/y=q2 at *
  obtain ⟨f1,f2⟩:=A4n (x:=x) (a:=((x/b64^m)%y*b64^m+x%b64^m)%y) (b:=x/b64^m/y*b64^m+q2) (p:=y) (by
   generalize ((x/b64^m)%y*b64^m+x%b64^m)%y=r2 at *
   generalize x/b64^m/y=q1 at *
   generalize x/b64^m%y=r1 at *
   generalize x/b64^m=top at *
   generalize x%b64^m=xl at *
   generalize b64^m=P at *
   grind) e3 e2
  refine hK _ _ _ _ _ _ _ l08 k8 k7 ?_ ?_
  ·rw [f1];exact M8
  ·rw [f2];exact M7'
theorem Wi{ys:List Int}{k t s:Nat}(dy:Dig b64 ys)(hk:ys.length=k+1)(ht:ys.getD k 0=(t:Int))(ht0:t≠0)(hs:s=64-N5 t):s<64/\val b64 ys*2^s<b64^(k+1)/\9223372036854775808*b64^k<=val b64 ys*2^s:=by
 have gt:=N3 dy k
 obtain ⟨hyt,hyt2⟩:=Bt (B:=b64) (by decide) dy (m:=k) hk
 rw [ht] at gt hyt hyt2
 obtain ⟨hb1',hb2'⟩:=Eh ht0
 have hb64:N5 t<=64:=Hv (k:=64) (by omega)
 have hbb0:1<=N5 t:=by unfold N5;rw [if_neg ht0];omega
 have hs64:s<64:=by omega
 have hps:0<(2:Int)^s:=C6f (by decide)
 have hsp:=Z7 (s:=s) (by omega)
 have hblen:N5 t=64-s:=by omega
 have htl:(t:Int)+1<=2^(64-s):=by
  rw [<- hblen]
  have:((t+1:Nat):Int)<=((2^N5 t:Nat):Int):=by omega
  simpa using this
 have htg:(2:Int)^(63-s)<=t:=by
  have:((2^(N5 t-1):Nat):Int)<=((t:Nat):Int):=by omega
  rw [show N5 t-1=63-s by omega] at this
  simpa using this
 have hp63:(2:Int)^s*2^(63-s)=9223372036854775808:=by
  rw [<- C6a,show s+(63-s)=63 by omega];decide
 have hpm:=D7 (B:=b64) (by decide) k
 refine ⟨hs64,?_,?_⟩
 ·have t2:val b64 ys*2^s<((t:Int)+1)*b64^k*2^s:=C6b hyt hps
  have t3:((t:Int)+1)*b64^k*2^s=((t:Int)+1)*2^s*b64^k:=by grind
  have t4:((t:Int)+1)*2^s*b64^k<=18446744073709551616*b64^k:=by
   apply C5n _ (C60 hpm)
   rw [<- hsp,C5z (2^s)]
   exact C5n htl (C60 hps)
  have t5:b64^(k+1)=18446744073709551616*b64^k:=by rw [C65 b64 k,C5z]
  omega
 ·have t1:(t:Int)*b64^k*2^s<=val b64 ys*2^s:=C5n hyt2 (C60 hps)
  have t2:9223372036854775808*b64^k<=(t:Int)*2^s*b64^k:=by
   apply C5n _ (C60 hpm)
   rw [<- hp63,C5z (t:Int)]
   exact C5l htg (by omega)
  have t3:(t:Int)*2^s*b64^k=(t:Int)*b64^k*2^s:=by grind
  omega
section
variable {h g:Heap} {K:VP} {A B:Option Addr} {ac bc:Nat}
set_option maxHeartbeats 1000000 in
theorem A4r{D V a b:Int}{S sh dn dc vc bn bq:Nat}{pieces t46:Int}{DA VA:Option Addr}(hS:B5 ((B5 (C70 (B5 ((B5 (((bn:Nat):Int)+pieces))-(1:Int))) pieces))*pieces)=(S:Int))
 (hsh:C0 (B5 ((B5 ((64:Int)*(B5 ((S:Int)-((bn:Nat):Int)))))+t46))=(sh:Int)) (hS0:0<S) (hS2:S<=200000000) (hsh2:sh<=100000000000) (hb:h bq=none) (hD:Mw h DA dn D) (hdc:dn<=dc) (hdn:0<dn) (hdl:dn<=2000000000) (hV:Mw h VA S V) (hvc:S<=vc) (hVt:9223372036854775808*b64^(S-1)<=V)
 (hDa:D=a*2^sh) (hVb:V=b*2^sh)
 (hK:∀ A1 m1 c1 A2 m2 c2 h',h.le h'->m1<=c1->m2<=c2->Mw h' A1 m1 (a/b)->Mw h' A2 m2 (a%b)->K (.tuple #[.slice A1 m1 c1,.slice A2 m2 c2]) h'):
 Au prog bn K pieces t46 VA S vc DA dn dc (some ⟨bq,0,none⟩) (dn+S) (dn+S) (blk .u64 C1 h bq (C5h (dn+S) 0)):=by
 have hD0:=hD.nonneg (by decide)
 have hDlt:=hD.lt (by decide)
 have hVlt:=hV.lt (by decide)
 have hV0:0<V:=by have:=D7 (B:=b64) (by decide) (S-1);omega
 have hp:0<(2:Int)^sh:=C6f (by decide)
 have hQ:=D7 (B:=b64) (by decide) S
 unfold Au
 simp only [hS,hsh]
 obtain ⟨nb,hnb⟩:∃ nb,nb=(dn-1)/S:=⟨_,rfl⟩
 have hnb1:nb*S<=dn-1:=by rw [hnb];exact Nat.div_mul_le_self _ _
 have hnb2:dn-1<nb*S+S:=by
  have h1:=C7f (dn-1) S
  have h2:=Nat.mod_lt (dn-1) hS0
  rw [<- hnb,C7d] at h1
  omega
 have e1:B5 (B5 (C70 (B5 ((dn:Int)-1)) (S:Int))*(S:Int))=((nb+1:Nat):Int)*S-S:=by
  rw [B7 (n:=(dn:Int)-1) (by omega) (by omega),show (dn:Int)-1=((dn-1:Nat):Int) by omega,<- C6d,<- hnb]
  have:nb<=dn-1:=by rw [hnb];exact C80 _ _
  have h3:(nb:Int)*(S:Int)=((nb*S:Nat):Int):=by simp
  rw [B7 (n:=(nb:Int)) (by omega) (by omega),h3,B7 (by omega) (by omega),C7l,Int.add_mul,h3]
  omega
 refine ⟨fun l hp=>∃ (j n c:Nat) (A:Option Addr) (ws:List Int) (r:Int) (g:Heap),l=[.slice A n c,I ((j:Int)*S-S)]/\h.le g/\j*S+ws.length=dn+S/\Dig b64 ws/\Win .u64 hp g bq C1 (some ⟨bq,0,none⟩) [] (C5h (j*S) 0++ws) []/\Mw g A n r/\n<=c/\r=(D/b64^(j*S))%V/\val b64 ws=(D/b64^(j*S))/V,fun l _=>(iAt l 1+S).toNat,⟨nb+1,0,0,none,C5h (dn-1+1-nb*S) 0,0,h,by rw [e1],B4 h,?_,I5 (by decide) _,?_,Mag.zero,C6q _,?_,?_⟩,?_⟩
 ·rw [C64,C78,C76];omega
 ·rw [C6r,show (nb+1)*S+(dn-1+1-nb*S)=dn+S by rw [C78,C76];omega]
  exact Win.blk .u64 C1 hb _
 ·have:=D3 (B:=b64) (by decide) (show dn<=(nb+1)*S by rw [C78,C76];omega)
  rw [Int.ediv_eq_zero_of_lt hD0 (by omega),Int.zero_emod]
 ·have:=D3 (B:=b64) (by decide) (show dn<=(nb+1)*S by rw [C78,C76];omega)
  rw [Int.ediv_eq_zero_of_lt hD0 (by omega),Int.zero_ediv,Cc]
 rintro A1 n1 c1 st hp5 ⟨j,n,c,A',ws,r,g,hli,lg,hjl,dws,w,Mr,hnc,hr,hws⟩
 simp only [C5t,C5y,C62,and_true,true_and] at hli
 obtain ⟨⟨rfl,rfl,rfl⟩,rfl⟩:=hli
 refine B6 (fun h1=>?_) (fun h1=>?_)
 ·obtain ⟨i,rfl⟩:∃ i,j=i+1:=⟨j-1,by
   rcases j with _|j
   ·simp at h1;omega
   ·rfl⟩
  obtain ⟨e,he⟩:∃ e,e=i*S:=⟨_,rfl⟩
  have he1:(i+1)*S=e+S:=by rw [he,C78,C76]
  have hst:((i+1:Nat):Int)*(S:Int)-(S:Int)=(e:Int):=by rw [<- C66,he1];omega
  rw [he1] at hjl w hr hws
  rw [hst]
  have hQe:=D7 (B:=b64) (by decide) e
  refine w.call (Y6 (hD.mono lg) hdc ?_)
  intro A2 n2 c2 k2 k2' M2 h2 w2
  refine ⟨_,_,_,rfl,w2.call (Fg M2 k2 (by omega) ?_)⟩
  intro A3 n3 c3 k3 k3' k3'' M3 h3 w3
  have hr0:=Mr.nonneg (by decide)
  have hrV:r<V:=by rw [hr];exact C5r _ hV0
  have hn1:n1<=S:=Mr.len_le (by decide) (by omega)
  refine ⟨_,_,_,rfl,w3.call (Hd Mr M3 k3' (by omega) ?_)⟩
  intro A4 n4 c4 g4 l4 k4 M4 h4 w4
  have hD2:D/b64^(e+S)=D/b64^e/b64^S:=by rw [C6a,Int.ediv_ediv_of_nonneg (by omega)]
  rw [hD2] at hr hws
  have dm:=C5s (D/b64^e) (b64^S)
  have bl0:=C61 (D/b64^e) (b:=b64^S) (by omega)
  have bl1:=C5r (D/b64^e) hQ
  generalize hD1:D/b64^e=D1 at *
  have hjlt:r*b64^S+D1%b64^S<b64^S*V:=by
   have t1:b64^S*(r+1)<=b64^S*V:=C5l (by omega) (by omega)
   rw [C79,C5z] at t1
   omega
  have hn4:n4<=S+S:=M4.len_le (by decide) (by
   have t1:b64^S*V<b64^S*b64^S:=C83 hVlt hQ
   rw [C6a];omega)
  have lg4:=B0 lg l4
  refine ⟨_,_,_,rfl,w4.call (C16 S (C6q _) M4 (hV.mono lg4) k4 hvc (by omega) hS2 hS0 hVt hjlt ?_)⟩
  intro A5 n5 c5 A6 n6 c6 g6 l6 k5 k6 M5 M6 h6 w6
  have hn5:n5<=S:=M5.len_le (by decide) (C6c hV0 hjlt)
  refine ⟨_,_,_,_,_,_,rfl,⟨by omega,by omega⟩,?_⟩
  rw [C5i]
  have hzs:C5h (e+S) (0:Int)++ws=C5h e 0++(C5h S 0++ws):=by rw [<- C5u,C6r]
  rw [hzs] at w6
  have hzl:(C5h e (0:Int)++(C5h S 0++ws)).length=dn+S:=by simp only [C5j,C64];omega
  have w7:=w6.sub (l:=e) (m:=dn+S) (c:=dn+S) (by omega) (by omega) (by omega)
  have e7:((C5h e (0:Int)++(C5h S 0++ws)).drop e).take (dn+S-e)=C5h S 0++ws:=by
   rw [List.drop_left' (by simp),C5m (by simp only [C5j,C64];omega)]
  rw [e7] at w7
  obtain ⟨ds,hdsl,sds,dds,nds,hdsv⟩:=M5
  refine Fy P7 w7 (by simp only [C5j,C64];omega) (sds.mono w6.le) hdsl (by simp only [C5j,C64];omega) ?_
  intro h8 w8
  rw [C7y (by simp;omega),C6k,<- C5u ds] at w8
  have hdl2:(ds++C5h (S-ds.length) (0:Int)).length=S:=by simp;omega
  have w9:=w6.whole (l:=e) (m:=dn+S) (by omega) (by omega) (by rw [C5j,hdl2];omega) w8
  rw [C7g (by simp),C5w (show (C5h e (0:Int)++(C5h S 0++ws)).length<=dn+S by omega),C69] at w9
  have e8:B5 ((e:Int)-(S:Int))=((i:Nat):Int)*S-S:=by
   rw [B7 (by omega) (by omega),he,C66]
  have dmr:=C5s (r*b64^S+D1%b64^S) V
  have dmr1:=C61 (r*b64^S+D1%b64^S) (b:=V) (by omega)
  have dmr2:=C5r (r*b64^S+D1%b64^S) hV0
  have dm2:=C5s (D1/b64^S) V
  rw [<- hr,<- hws] at dm2
  obtain ⟨f1,f2⟩:=A4n (x:=D1) (a:=(r*b64^S+D1%b64^S)%V) (b:=val b64 ds+b64^S*val b64 ws) (p:=V) (by
   rw [hdsv]
   generalize (r*b64^S+D1%b64^S)%V=r2 at *
   generalize hq2:(r*b64^S+D1%b64^S)/V=q2 at *
   generalize D1%b64^S=bl at *
   generalize D1/b64^S=D2 at *
   generalize b64^S=Q at *
   generalize val b64 ws=W at *
   grind) dmr1 dmr2
  refine ⟨_,rfl,?_⟩
  rw [e8]
  refine ⟨⟨i,_,_,_,(ds++C5h (S-ds.length) 0)++ws,_,g6,rfl,B0 lg4 l6,?_,?_,?_,M6,k6,?_,?_⟩,?_⟩
  ·rw [C5j,hdl2];omega
  ·exact (dds.append (I5 (by decide) _)).append dws
  ·rw [<- he];exact w9
  ·rw [<- he,hD1,f2]
  ·rw [<- he,hD1,f1,G7,hdl2,Cr]
  ·simp only [iAt,C5p,C5o]
   rw [<- C66,<- he]
   omega
 ·obtain rfl:j=0:=by
   rcases j with _|j
   ·rfl
   ·rw [<- C66,C78,C76] at h1
    omega
  rw [Nat.zero_mul,List.replicate_zero,C6w] at w
  rw [Nat.zero_mul,Int.pow_zero,Int.ediv_one] at hr hws
  rw [Nat.zero_mul,C7c] at hjl
  have hb0:0<b:=by
   by_cases hc:0<b
   ·exact hc
   ·have:=C5n (show b<=0 by omega) (C60 hp);omega
  obtain ⟨f1,f2⟩:=A4n (x:=D) (a:=(a%b)*2^sh) (b:=a/b) (p:=V) (by
   have:=C5s a b
   rw [hDa,hVb]
   conv=>rhs;rw [<- this]
   grind) (C67 (C61 _ (by omega)) (by omega)) (by rw [hVb];exact C6b (C5r _ hb0) hp)
  refine Bf w.sl dws hjl.symm hws (by omega) (by omega) ?_
  intro m2 k2 M2
  refine ⟨_,_,_,rfl,?_⟩
  refine Gc (Mr.mono w.le) (by have:=Mr.len_le (j:=S) (by decide) (by have:=C5r D hV0;omega);omega) (by omega) ?_
  intro A3 n3 c3 h3 l3 k3 M3
  rw [hr,f2,Int.mul_ediv_cancel _ (by omega)] at M3
  rw [f1] at M2
  exact ⟨_,_,_,rfl,hK _ _ _ _ _ _ _ (B0 lg (B0 w.le l3)) k2 k3 (M2.mono l3) M3⟩
set_option maxHeartbeats 1000000 in
theorem Pb{x y:Int}{an bn:Nat}(ma:Mw h A an x)(mb:Mw h B bn y)(ha:an<=ac)(hbc:bn<=bc)(hl:an<=800000000)(hl2:bn<=100000000)(ha0:0<an)(hb0:0<bn)
 (hK:∀ A1 m1 c1 A2 m2 c2 h',h.le h'->m1<=c1->m2<=c2->Mw h' A1 m1 (x/y)->Mw h' A2 m2 (x%y)->K (.tuple #[.slice A1 m1 c1,.slice A2 m2 c2]) h'):FCall prog Ch #[.slice A an ac,.slice B bn bc] h K:=by
 have hx0:=ma.nonneg (by decide)
 have hxz:=ma.len_zero (by decide)
 have hxlt:=ma.lt (by decide)
 refine Qz _ _ _ _ _ _ ?_
 unfold Ns Ia
 refine ⟨fun l hp=>hp=h/\∃ p:Nat,l=[I p]/\0<p/\p<=bn,fun l _=>bn-(iAt l 0).toNat,⟨rfl,1,rfl,by omega,by omega⟩,?_⟩
 rintro pieces hp ⟨rfl,p,hli,hp0,hpb⟩
 obtain rfl:=sI1 hli
 have e1:B5 (C70 (B5 (B5 ((bn:Int)+(p:Int))-1)) (p:Int))=(((bn+p-1)/p:Nat):Int):=by
  rw [B7 (n:=(bn:Int)+p) (by omega) (by omega),B7 (n:=(bn:Int)+p-1) (by omega) (by omega),show (bn:Int)+p-1=((bn+p-1:Nat):Int) by omega,<- C6d]
  have:(bn+p-1)/p<=bn+p-1:=C80 _ _
  generalize (bn+p-1)/p=q at *
  rw [B7 (by omega) (by omega)]
 refine B6 (fun h1=>by omega) (fun _=>?_)
 obtain ⟨S,hS⟩:∃ S,S=(bn+p-1)/p*p:=⟨_,rfl⟩
 have hS1:bn<=S/\S<=bn+p-1:=by
  have h1:=C7f (bn+p-1) p
  have h2:=Nat.mod_lt (bn+p-1) hp0
  rw [C7d,<- hS] at h1
  omega
 have e2:B5 ((B5 (C70 (B5 (B5 ((bn:Int)+(p:Int))-1)) (p:Int)))*(p:Int))=(S:Int):=by
  rw [e1,<- C66,<- hS,B7 (by omega) (by omega)]
 refine B6 (fun h1=>?_) (fun h1=>?_)
 ·rw [e1] at h1
  have h2:80<=(bn+p-1)/p:=by omega
  rw [Nat.le_div_iff_mul_le hp0] at h2
  have e3:B5 ((p:Int)*2)=((p*2:Nat):Int):=by rw [B7 (by omega) (by omega)];omega
  rw [e3]
  exact ⟨⟨rfl,_,rfl,by omega,by omega⟩,by simp only [iAt,C5o];omega⟩
 ·refine B6 (fun h1=>by omega) (fun _=>?_)
  obtain ⟨k,hk⟩:∃ k,bn=k+1:=⟨bn-1,by omega⟩
  have mb':=mb
  obtain ⟨ys,hys,sy,dy,ny,rfl⟩:=mb
  have hys':ys.length=k+1:=by omega
  have gt:=N3 dy k
  have ht0:=A0w hys' ny
  have e3:B5 ((bn:Int)-1)=(k:Int):=by rw [B7 (by omega) (by omega)];omega
  rw [e3]
  subst hys
  refine sy.load rfl (by omega) (by omega) ?_
  rw [C5i]
  obtain ⟨t,ht⟩:∃ t:Nat,ys.getD k 0=t:=⟨(ys.getD k 0).toNat,by omega⟩
  rw [ht] at gt ht0 ⊢
  refine R1 (by omega) ⟨_,rfl,?_⟩
  obtain ⟨s,hs⟩:∃ s,s=64-N5 t:=⟨_,rfl⟩
  rw [<- hs]
  obtain ⟨hs64,hY1,hY2⟩:=Wi dy hys' ht (by omega) hs
  simp only [e2]
  obtain ⟨sh,hsh⟩:∃ sh,sh=64*(S-ys.length)+s:=⟨_,rfl⟩
  have e4:C0 (B5 (B5 (64*B5 ((S:Int)-(ys.length:Int)))+(s:Int)))=(sh:Int):=by
   rw [B7 (n:=(S:Int)-(ys.length:Int)) (by omega) (by omega),B7 (n:=64*((S:Int)-(ys.length:Int))) (by omega) (by omega),B7 (by omega) (by omega),C2 (by omega) (by omega)]
   omega
  simp only [e4]
  have hpow:(2:Int)^sh=2^s*b64^(S-ys.length):=by rw [hsh,C6a,Ju,C5z]
  have hpS:=D7 (B:=b64) (by decide) (S-ys.length)
  have hps:0<(2:Int)^s:=C6f (by decide)
  have hpsh:0<(2:Int)^sh:=C6f (by decide)
  have hVe:val b64 ys*2^sh=val b64 ys*2^s*b64^(S-ys.length):=by rw [hpow,C6u]
  have hV1:val b64 ys*2^sh<b64^S:=by
   have t1:val b64 ys*2^s*b64^(S-ys.length)<b64^(k+1)*b64^(S-ys.length):=C6b hY1 hpS
   rw [<- C6a,show k+1+(S-ys.length)=S by omega] at t1
   omega
  have hV2:9223372036854775808*b64^(S-1)<=val b64 ys*2^sh:=by
   have t1:9223372036854775808*b64^k*b64^(S-ys.length)<=val b64 ys*2^s*b64^(S-ys.length):=C5n hY2 (C60 hpS)
   rw [C6u,<- C6a,show k+(S-ys.length)=S-1 by omega] at t1
   omega
  refine T5 mb' hbc (by omega) (by omega) ?_
  intro A1 n1 c1 h1 l1 k1 M1
  refine ⟨_,_,_,rfl,?_⟩
  have hn1:n1=S:=by
   have q1:=M1.len_le (by decide) hV1
   have q2:=M1.lt (by decide)
   by_cases hc:n1=S
   ·exact hc
   ·have:=D3 (B:=b64) (by decide) (show n1<=S-1 by omega)
    have:=D7 (B:=b64) (by decide) (S-1)
    omega
  subst hn1
  refine T5 (ma.mono l1) ha (by omega) (by omega) ?_
  intro A2 n2 c2 h2 l2 k2 M2
  refine ⟨_,_,_,rfl,?_⟩
  have hn2:n2<=an+(1+(n1-ys.length)):=M2.len_le (by decide) (by
   have t1:x*2^sh<b64^an*2^sh:=C6b hxlt hpsh
   have t2:(2:Int)^sh<=b64^(1+(n1-ys.length)):=by
    rw [hpow,C6a]
    apply C5n _ (C60 hpS)
    have:=D3 (B:=2) (by decide) (show s<=64 by omega)
    have e:(2:Int)^64=18446744073709551616:=by decide
    show (2:Int)^s<=b64^1
    rw [C65,Int.pow_zero]
    show (2:Int)^s<=1*18446744073709551616
    omega
   have t3:b64^an*2^sh<=b64^an*b64^(1+(n1-ys.length)):=C5l t2 (C60 (D7 (by decide) an))
   rw [C6a b64 an]
   omega)
  have hn2':0<n2:=by
   rcases Nat.eq_zero_or_pos n2 with h0|h0
   ·have:=(M2.len_zero (by decide)).2 h0
    rcases Int.mul_eq_zero.1 this with h3|h3<;>omega
   ·exact h0
  have e5:B5 ((n2:Int)+(n1:Int))=((n2+n1:Nat):Int):=by rw [B7 (by omega) (by omega)];omega
  rw [e5]
  refine K0 P7 (by omega) (by omega) (by omega) ?_
  intro bq hbq
  rw [C5i]
  refine ⟨_,_,_,rfl,?_⟩
  refine B6 (fun h1=>by omega) (fun _=>?_)
  refine A4r (D:=x*2^sh) (V:=val b64 ys*2^sh) (sh:=sh) (S:=n1) e2 e4 (by omega) (by omega) (by omega) hbq M2 k2 hn2' (by omega) (M1.mono l2) k1 hV2 rfl rfl ?_
  intro A3 n3 c3 A4 n4 c4 h4 l4 k3 k4 M3 M4
  exact hK _ _ _ _ _ _ _ (B0 l1 (B0 l2 l4)) k3 k4 M3 M4
theorem S6{x y:Int}{an bn:Nat}(ma:Mw h A an x)(mb:Mw h B bn y)(ha:an<=ac)(hbc:bn<=bc)(hy:y≠0)(hl:an<=800000000)(hl2:bn<=100000000)
 (hK:∀ A1 m1 c1 A2 m2 c2 h',h.le h'->m1<=c1->m2<=c2->Mw h' A1 m1 (x/y)->Mw h' A2 m2 (x%y)->K (.tuple #[.slice A1 m1 c1,.slice A2 m2 c2]) h'):FCall prog O8 #[.slice A an ac,.slice B bn bc] h K:=by
 refine Ui _ _ _ _ _ _ ?_
 unfold Qm
 have simple:FCall prog J3 #[.slice A an ac,.slice B bn bc] h (fun r hp=>∃ (t22aA:Option Addr) (t22an:Nat) (t22ac:Nat) (t22bA:Option Addr) (t22bn:Nat) (t22bc:Nat),r= .tuple #[.slice t22aA t22an t22ac,.slice t22bA t22bn t22bc]/\K (.tuple #[.slice t22aA t22an t22ac,.slice t22bA t22bn t22bc]) hp):=by
  refine Ec ma mb ha hbc hy (by omega) (by omega) ?_
  intro A1 m1 c1 A2 m2 c2 h' l k1 k2 M1 M2
  exact ⟨_,_,_,_,_,_,rfl,hK _ _ _ _ _ _ _ l k1 k2 M1 M2⟩
 refine B6 (fun h1=>B6 (fun h2=>?_) (fun _=>simple)) (fun _=>simple)
 rw [B7 (by omega) (by omega)] at h2
 refine Pb ma mb ha hbc hl hl2 (by omega) (by omega) ?_
 intro A1 m1 c1 A2 m2 c2 h' l k1 k2 M1 M2
 exact ⟨_,_,_,_,_,_,rfl,hK _ _ _ _ _ _ _ l k1 k2 M1 M2⟩
end
def TZ(x k:Nat):Prop:=∃ m,x=2^k*(2*m+1)
theorem TZ.ex:∀ {x:Nat},x≠0->∃ k,TZ x k:=by
 intro x
 induction x using Nat.strongRecOn with
 | _ x ih=>
  intro h
  rcases Nat.mod_two_eq_zero_or_one x with h0|h0
  ·obtain ⟨k,m,hm⟩:=ih (x/2) (by omega) (by omega)
   refine ⟨k+1,m,?_⟩
   rw [Nat.pow_succ,C7d (2^k),C7q,<- hm];omega
  ·exact ⟨0,x/2,by omega⟩
theorem TZ.lt{x k n:Nat}(h:TZ x k)(hx:x<2^n):k<n:=by
 obtain ⟨m,rfl⟩:=h
 have h1:2^k*1<=2^k*(2*m+1):=Nat.mul_le_mul_left _ (by omega)
 exact (Nat.pow_lt_pow_iff_right (a:=2) (by decide)).1 (by omega)
theorem B0a{a u v:Nat}:(2^a*u) ||| (2^a*v)=2^a*(u ||| v):=by
 apply Nat.eq_of_testBit_eq
 intro i
 simp only [Nat.testBit_or,Nat.testBit_two_pow_mul,Bool.and_or_distrib_left]
theorem B6g{u v:Nat}(h:u%2=1\/v%2=1):(u ||| v)%2=1:=by simpa using h
theorem TZ.or'{x y a b:Nat}(hx:TZ x a)(hy:TZ y b)(hab:a<=b):TZ (x ||| y) a/\TZ (y ||| x) a:=by
 obtain ⟨m,rfl⟩:=hx
 obtain ⟨n,rfl⟩:=hy
 obtain ⟨d,rfl⟩:∃ d,b=a+d:=⟨b-a,by omega⟩
 rw [C7p,C7q,B0a,B0a]
 have h1:=B6g (u:=2*m+1) (v:=2^d*(2*n+1)) (.inl (by omega))
 have h2:=B6g (u:=2^d*(2*n+1)) (v:=2*m+1) (.inr (by omega))
 exact ⟨⟨_/2,by rw [<- C7f (_ ||| _) 2,h1]⟩,⟨_/2,by rw [<- C7f (_ ||| _) 2,h2]⟩⟩
theorem TZ.or{x y a b:Nat}(hx:TZ x a)(hy:TZ y b):TZ (x ||| y) (min a b):=by
 by_cases h:a<=b
 ·rw [C5v h];exact (hx.or' hy h).1
 ·rw [C7w (by omega)];exact (hy.or' hx (by omega)).2
theorem TZ.bit{x k:Nat}(h:TZ x k)(hx:x<2^64):x &&& (2^64-x)=2^k:=by
 obtain ⟨m,rfl⟩:=h
 have hp:0<2^k:=C6v (by decide)
 have e1:2^k*(2*m+1)=2^k*(2*m)+(2^k-1)+1:=by rw [Nat.mul_add,C6e];omega
 apply Nat.eq_of_testBit_eq
 intro i
 rw [Nat.testBit_and]
 have e2:(2^64-2^k*(2*m+1)).testBit i=(decide (i<64) && !(2^k*(2*m)+(2^k-1)).testBit i):=by
  rw [e1];exact Nat.testBit_two_pow_sub_succ (by omega) i
 rw [e2,Nat.testBit_two_pow_mul_add _ (by omega),Nat.testBit_two_pow_mul,Nat.testBit_two_pow]
 by_cases h1:i<k
 ·simp [h1,show ¬ i>=k by omega,show ¬ k=i by omega]
 ·by_cases h2:i=k
  ·subst h2
   have h64:i<64:=TZ.lt ⟨m,rfl⟩ hx
   simp [h64,Nat.testBit_zero]
  ·obtain ⟨d,hd⟩:∃ d,i-k=d+1:=⟨i-k-1,by omega⟩
   rw [if_neg h1,hd,Nat.testBit_succ,Nat.testBit_succ,show (2*m+1)/2=m by omega,show 2*m/2=m by omega]
   simp only [show ¬ k=i by omega,decide_false]
   cases m.testBit d<;>simp
theorem Xt{o k:Nat}(h:o%2=1):Nat.Coprime (2^k) o:=Nat.Coprime.pow_left k (by unfold Nat.Coprime;rw [Nat.gcd_rec,h];rfl)
theorem B8w{x y a b m:Nat}(hx:x=2^a*(2*m+1))(hy:TZ y b):C72 x y=2^(min a b)*C72 (2*m+1) y:=by
 obtain ⟨n,rfl⟩:=hy
 subst hx
 have e0:C72 (2*m+1) (2^b*(2*n+1))=C72 (2*m+1) (2*n+1):=C6h (2*n+1) (Xt (by omega))
 rw [e0]
 by_cases h:a<=b
 ·obtain ⟨d,rfl⟩:∃ d,b=a+d:=⟨b-a,by omega⟩
  rw [C5v h,C7p,C7q,Nat.gcd_mul_left,C6h _ (Xt (by omega))]
 ·obtain ⟨d,rfl⟩:∃ d,a=b+d:=⟨a-b,by omega⟩
  rw [C7w (by omega),C7p,C7q,Nat.gcd_mul_left,Nat.Coprime.gcd_mul_left_cancel _ (Xt (by omega))]
def A0u(k:Nat):Nat:=(2^k*285870213051353865%18446744073709551616)/2^58
def Gtz(h:Heap):Prop:=∀ k,k<64->h.cell? (Addr.add ⟨3,0,none⟩ (A0u k*1))=some (Y k)
theorem Gtz.mono{h h':Heap}(g:Gtz h)(l:h.le h'):Gtz h':=fun k hk=>B8 l (g k hk)
section
variable {h g:Heap} {K:VP} {A B:Option Addr} {ac bc:Nat}
theorem Jq{x k:Nat}(gl:Gtz h)(tz:TZ x k)(hx:x<18446744073709551616)(hK:K (I k) h):FCall prog L8 #[U x] h K:=by
 have hk:=tz.lt (n:=64) hx
 have hx0:x≠0:=by
  obtain ⟨m,rfl⟩:=tz
  have:0<2^k:=C6v (by decide)
  have:=Nat.mul_pos this (show 0<2*m+1 by omega)
  omega
 refine Kl _ ?_
 unfold Gm
 refine E5 (fun e=>by omega) (fun _=>?_)
 have e1:C0 (0-(x:Int))=((2^64-x:Nat):Int):=by
  rw [E9];omega
 have e2:Pe .u64 (x:Int) ((2^64-x:Nat):Int)=((2^k:Nat):Int):=by
  rw [B1y (by omega) (by omega),C5i,C5i,tz.bit hx]
 have e3:C7u (C0 (((2^k:Nat):Int)*285870213051353865)) (2^(min ((58:Int)).toNat 64))=((A0u k:Nat):Int):=by
  show C7u _ (2^(min 58 64))=_
  rw [B4f (by decide),E9]
  unfold A0u
  rw [C7b,C7z,C66]
  rfl
 rw [e1,e2,e3,C5i]
 have hi:A0u k<64:=by
  unfold A0u
  have:(2^k*285870213051353865)%18446744073709551616<18446744073709551616:=Nat.mod_lt _ (by decide)
  exact Nat.div_lt_of_lt_mul (by omega)
 refine ⟨⟨by omega,by omega⟩,_,gl k hk,?_⟩
 rw [B7 (by omega) (by omega)]
 exact hK
theorem A22{x y:Nat}(gl:Gtz h)(hx:x<18446744073709551616)(hy:y<18446744073709551616)(hK:K (U (C72 x y:Nat)) h):FCall prog Ot #[U x,U y] h K:=by
 refine A4x _ _ ?_
 unfold A6n
 refine E5 (fun e=>?_) (fun e=>?_)
 ·obtain rfl:x=0:=by omega
  rw [A4q (by omega) (by omega)]
  simpa using hK
 refine E5 (fun e'=>?_) (fun e'=>?_)
 ·obtain rfl:y=0:=by omega
  rw [A4q (by omega) (by omega)]
  simpa using hK
 obtain ⟨a,ta⟩:=TZ.ex (x:=x) (by omega)
 obtain ⟨b,tb⟩:=TZ.ex (x:=y) (by omega)
 have ha:=ta.lt (n:=64) hx
 have hb:=tb.lt (n:=64) hy
 rw [A4q (by omega) (by omega),C5i,C5i]
 have hxy:x ||| y<18446744073709551616:=Nat.or_lt_two_pow (n:=64) hx hy
 refine Jq gl (ta.or tb) hxy ⟨_,rfl,?_⟩
 refine Jq gl ta hx ⟨_,rfl,?_⟩
 refine B6 (fun h1=>by omega) (fun _=>?_)
 obtain ⟨m,hm⟩:=ta
 have hg:=B8w hm tb
 have e1:C7u (x:Int) (2^(min ((a:Int)).toNat 64))=((2*m+1:Nat):Int):=by
  rw [C5i,B4f (by omega),show ((2:Int)^a)=((2^a:Nat):Int) by simp,<- C7b,hm,Nat.mul_div_cancel_left _ (C6v (by decide))]
 rw [e1]
 have hm64:2*m+1<=x:=by
  rw [hm];exact Nat.le_mul_of_pos_left _ (C6v (by decide))
 refine ⟨fun l hp=>hp=h/\∃ u v:Nat,l=[U u,U v]/\u%2=1/\u<18446744073709551616/\v<18446744073709551616/\C72 u v=C72 (2*m+1) y,fun l _=>(iAt l 0+iAt l 1).toNat,⟨rfl,2*m+1,y,rfl,by omega,by omega,hy,rfl⟩,?_⟩
 rintro x1 y1 hp2 ⟨rfl,u,v,hl,hu,hu2,hv2,huv⟩
 simp only [C5t,C62,and_true,true_and] at hl
 obtain ⟨rfl,rfl⟩:=hl
 refine N7 (fun h1=>?_) (fun h1=>?_)
 ·obtain ⟨c,tc⟩:=TZ.ex (x:=v) (by omega)
  have hc:=tc.lt (n:=64) hv2
  refine Jq gl tc hv2 ⟨_,rfl,?_⟩
  refine B6 (fun h1=>by omega) (fun _=>?_)
  obtain ⟨n,hn⟩:=tc
  have e2:C7u (v:Int) (2^(min ((c:Int)).toNat 64))=((2*n+1:Nat):Int):=by
   rw [C5i,B4f (by omega),show ((2:Int)^c)=((2^c:Nat):Int) by simp,<- C7b,hn,Nat.mul_div_cancel_left _ (C6v (by decide))]
  have hn64:2*n+1<=v:=by
   rw [hn];exact Nat.le_mul_of_pos_left _ (C6v (by decide))
  have hg2:C72 u (2*n+1)=C72 u v:=by
   rw [hn,C6h _ (Xt hu)]
  rw [e2]
  refine B6 (fun h2=>?_) (fun h2=>?_)
  ·have e3:C0 ((u:Int)-((2*n+1:Nat):Int))=((u-(2*n+1):Nat):Int):=by rw [C2 (by omega) (by omega)];omega
   rw [e3]
   refine ⟨⟨rfl,_,_,rfl,by omega,by omega,by omega,?_⟩,?_⟩
   ·rw [Nat.gcd_sub_self_right (by omega),Nat.gcd_comm,hg2,huv]
   ·simp only [iAt,C5o,C5p];omega
  ·have e3:C0 (((2*n+1:Nat):Int)-(u:Int))=((2*n+1-u:Nat):Int):=by rw [C2 (by omega) (by omega)];omega
   rw [e3]
   refine ⟨⟨rfl,_,_,rfl,by omega,by omega,by omega,?_⟩,?_⟩
   ·rw [Nat.gcd_sub_self_right (by omega),hg2,huv]
   ·simp only [iAt,C5o,C5p];omega
 ·refine B6 (fun h1=>by omega) (fun _=>?_)
  obtain rfl:v=0:=by omega
  rw [Nat.gcd_zero_right] at huv
  rw [C5i,C5v (show min a b<=64 by omega)]
  have e4:(u:Int)*2^(min a b)=((C72 x y:Nat):Int):=by
   rw [hg,<- huv,C66,C5z];simp
  have hle:C72 x y<=x:=Nat.le_of_dvd (by omega) (Nat.gcd_dvd_left x y)
  rw [e4,C2 (by omega) (by omega)]
  exact hK
end
theorem A9b{xs:List Int}(d:Dig b64 xs){k s:Nat}(hl:xs.length<=k+2)(hs:s<=64):val b64 xs/(b64^k*2^(64-s))=xs.getD (k+1) 0*2^s+xs.getD k 0/2^(64-s):=by
 have h1:=C5 b64 xs (k+1)
 have h2:=C5 b64 xs k
 rw [C5m (show xs.length<=k+1+1 by omega)] at h1
 have hp:=D7 (B:=b64) (by decide) k
 have hpp:0<(2:Int)^(64-s):=C6f (by decide)
 have hsp:=Z7 (s:=s) hs
 have h3:=C8 (by decide) (d.take k)
 have h4:=L5 (by decide) (d.take k)
 have h5:=D3 (B:=b64) (by decide) (show (xs.take k).length<=k by rw [C5q];omega)
 rw [<- Int.ediv_ediv_of_nonneg (C60 hp)]
 have e1:val b64 xs/b64^k=xs.getD k 0+18446744073709551616*xs.getD (k+1) 0:=by
  refine (A4n (a:=val b64 (xs.take k)) ?_ h3 (by omega)).1
  rw [h1,h2,C65]
  show _=val b64 (xs.take k)+_+b64^k*18446744073709551616*_
  grind
 rw [e1,<- hsp,C5z (2^s),C6u,Int.add_mul_ediv_left _ _ (by omega),C5z (2^s)]
 omega
section
variable {h g:Heap} {K:VP} {A B:Option Addr} {ac bc:Nat}
def B9s(a b u0 u1 v0 v1:Int)(odd:Bool):Prop:=(0<=u0/\u0<18446744073709551616)/\(0<=u1/\u1<18446744073709551616)/\(0<=v0/\v0<18446744073709551616)/\(0<=v1/\v1<18446744073709551616)/\(v0≠0->Leh a b u0 v0 u1 v1 (Jy a b u0 v0 odd) (Jx a b u1 v1 odd))
theorem B4e{a b F S W t20 t26 t33:Int}(hF:F=bor .u64 (C0 (t26*2^(min (C0 t20).toNat 64))) (C7u t33 (2^(min (C0 ((64:Int)-(C0 t20))).toNat 64))))(hW:0<W)(hFa:F=a/W)(hSb:S=b/W)(hb0:0<=b)(hba:b<=a)(hF64:F<18446744073709551616)
 (hK:∀ u0 u1 v0 v1 odd,B9s a b u0 u1 v0 v1 odd->K (.agg #[U u0,U u1,U v0,U v1,.bool odd]) h):Hz prog K t20 t26 t33 S h:=by
 have da:=C5s a W
 have db:=C5s b W
 have da1:=C61 a (b:=W) (by omega)
 have da2:=C5r a hW
 have db1:=C61 b (b:=W) (by omega)
 have db2:=C5r b hW
 have hS0:0<=S:=by rw [hSb];exact C82 hb0 (by omega)
 have hSF:S<=F:=by rw [hSb,hFa];exact Int.ediv_le_ediv hW hba
 unfold Hz
 rw [<- hF]
 refine ⟨fun l hp=>hp=h/\∃ (first second u2 v2 u0 u1 v0 v1:Int) (odd:Bool),l=[U first,U second,U u2,U v2,U u0,U u1,U v0,U v1,.bool odd]/\LS F S first second u0 v0 u1 v1 u2 v2 odd/\B9s a b u0 u1 v0 v1 odd/\u2<=F/\v2<=(if F=0 then 1 else F),fun l _=>(iAt l 1).toNat,⟨rfl,_,_,_,_,_,_,_,_,_,rfl,LS.init hS0 hSF,⟨by omega,by omega,by omega,by omega,fun e=>absurd rfl e⟩,by omega,by split<;>omega⟩,?_⟩
 rintro first second u2 v2 u0 u1 v0 v1 odd hp ⟨rfl,first',second',u2',v2',u0',u1',v0',v1',odd',hl,ls,st,hu2,hv2⟩
 simp only [C5t,C62,Value.bool.injEq,and_true,true_and] at hl
 obtain ⟨rfl,rfl,rfl,rfl,rfl,rfl,rfl,rfl,rfl⟩:=hl
 have hpos:=ls.v2pos
 have hord:=ls.ord
 have hFe:=ls.hF
 refine B6 (fun h1=>?_) (fun _=>hK _ _ _ _ _ st)
 have hs1:1<=second:=by omega
 have hb2:=ls.bound2 hs1
 have hfF:first<=F:=by
  have t1:1*first<=v2*first:=C5n (by omega) (by omega)
  have t2:=C67 (show 0<=v1 by omega) hord.1
  omega
 rw [C2 (n:=first-second) (by omega) (by omega),C2 (n:=v1+v2) (by omega) (by omega)]
 refine B6 (fun h2=>?_) (fun _=>hK _ _ _ _ _ st)
 refine B6 (fun e=>by omega) (fun _=>?_)
 refine B6 (fun e=>by omega) (fun _=>?_)
 rw [C6x (by omega),C6y (by omega)]
 have ls2:=ls.step (by omega) (by omega)
 have hb3:=ls2.bound hs1
 have hq0:0<=first/second:=C82 (by omega) (by omega)
 have hq1:first/second<=first:=Int.ediv_le_self _ (by omega)
 have hqu:=C67 hq0 (show 0<=u2 by omega)
 have hqv:=C67 hq0 (show 0<=v2 by omega)
 rw [C2 (n:=first/second) (by omega) (by omega),C2 (n:=first/second*u2) (by omega) (by omega),C2 (n:=first/second*v2) (by omega) (by omega),C2 (n:=u1+first/second*u2) (by omega) (by omega),C2 (n:=v1+first/second*v2) (by omega) (by omega)]
 refine ⟨⟨rfl,_,_,_,_,_,_,_,_,_,rfl,ls2,⟨⟨by omega,st.2.1.2⟩,⟨by omega,by omega⟩,⟨by omega,st.2.2.2.1.2⟩,⟨by omega,by omega⟩,fun e=>ls2.leh e hW (al:=a%W) (bl:=b%W) ?_ ?_ ⟨da1,da2⟩ ⟨db1,db2⟩⟩,by omega,by split<;>omega⟩,?_⟩
 ·rw [hFa,C5z];omega
 ·rw [hSb,C5z];omega
 ·have:=C5r first (show 0<second by omega)
  have:=C61 first (show second≠0 by omega)
  simp only [iAt,C5p,C5o];omega
set_option maxHeartbeats 1000000 in
theorem Ya{a b:Int}{an bn:Nat}(ma:Mw h A an a)(mb:Mw h B bn b)(hba:b<=a)(hb2:2<=bn)(hl:an<=1000000000)
 (hK:∀ u0 u1 v0 v1 odd,B9s a b u0 u1 v0 v1 odd->K (.agg #[U u0,U u1,U v0,U v1,.bool odd]) h):FCall prog Kf #[.slice A an ac,.slice B bn bc] h K:=by
 have hb0:=mb.nonneg (by decide)
 have hbn:bn<=an:=mb.len_le (by decide) (C7t hba (ma.lt (by decide)))
 obtain ⟨k,rfl⟩:∃ k,an=k+2:=⟨an-2,by omega⟩
 obtain ⟨xs,hxl,sx,dx,nx,rfl⟩:=ma
 obtain ⟨ys,hyl,sy,dy,ny,rfl⟩:=mb
 refine A2k _ _ _ _ _ _ ?_
 unfold A2l
 have e1:B5 (((k+2:Nat):Int)-1)=((k+1:Nat):Int):=by rw [B7 (by omega) (by omega)];omega
 have e2:B5 (((k+2:Nat):Int)-2)=(k:Int):=by rw [B7 (by omega) (by omega)];omega
 simp only [e1,e2]
 have gt:=N3 dx (k+1)
 have gt2:=N3 dx k
 have ht0:=A0w (m:=k+1) hxl.symm nx
 obtain ⟨t,ht⟩:∃ t:Nat,xs.getD (k+1) 0=t:=⟨(xs.getD (k+1) 0).toNat,by omega⟩
 rw [hxl]
 refine sx.load rfl (by omega) (by omega) ?_
 rw [C5i,ht]
 rw [ht] at gt ht0
 refine R1 (by omega) ⟨_,rfl,?_⟩
 obtain ⟨s,hs⟩:∃ s,s=64-N5 t:=⟨_,rfl⟩
 rw [<- hs]
 obtain ⟨hs64,hY1,hY2⟩:=Wi dx hxl.symm ht (by omega) hs
 refine sx.load rfl (by omega) (by omega) ?_
 simp only [C5i,ht]
 have es:C0 (s:Int)=s:=C2 (by omega) (by omega)
 have es2:C0 (64-(s:Int))=((64-s:Nat):Int):=by rw [C2 (by omega) (by omega)];omega
 refine B6 (fun e=>by rw [es] at e;omega) (fun _=>?_)
 refine sx.load rfl (by omega) (by omega) ?_
 simp only [C5i]
 refine B6 (fun e=>by rw [es,es2] at e;omega) (fun _=>?_)
 have hps:0<(2:Int)^s:=C6f (by decide)
 have hpp:0<(2:Int)^(64-s):=C6f (by decide)
 have hsp:=Z7 (s:=s) (by omega)
 have hpk:=D7 (B:=b64) (by decide) k
 have hW:0<b64^k*2^(64-s):=Int.mul_pos hpk hpp
 have hFa:=A9b dx (k:=k) (s:=s) (by omega) (by omega)
 have hSb:=A9b dy (k:=k) (s:=s) (by omega) (by omega)
 have hFlt:val b64 xs/(b64^k*2^(64-s))<18446744073709551616:=by
  apply C6c hW
  have t1:18446744073709551616*(b64^k*2^(64-s))*2^s=18446744073709551616*b64^k*(2^s*2^(64-s)):=by grind
  rw [hsp] at t1
  have t2:b64^(k+1+1)=18446744073709551616*b64^k*18446744073709551616:=by
   rw [C65,C65]
   show b64^k*18446744073709551616*18446744073709551616=_
   grind
  rw [t2,<- t1] at hY1
  exact Int.lt_of_mul_lt_mul_right hY1 (by omega)
 have hSF:val b64 ys/(b64^k*2^(64-s))<=val b64 xs/(b64^k*2^(64-s)):=Int.ediv_le_ediv hW hba
 have q1:∀ z:Int,0<=z/\z<18446744073709551616->0<=z/2^(64-s)/\z/2^(64-s)<2^s:=fun z hz=>
  ⟨C82 hz.1 (by omega),C6c hpp (by rw [hsp];exact hz.2)⟩
 have hor:∀ u z:Int,0<=u->0<=z/\z<18446744073709551616->u*2^s+z/2^(64-s)<18446744073709551616->bor .u64 (C0 (u*2^(min (C0 (s:Int)).toNat 64))) (C7u z (2^(min (C0 (64-C0 (s:Int))).toNat 64)))=u*2^s+z/2^(64-s):=by
  intro u z hu hz huz
  have:=q1 z hz
  have:=C67 hu (C60 hps)
  rw [es,es2,C5i,C5i,B4f (by omega),C5v (show s<=64 by omega),C2 (by omega) (by omega),A2e hu (by omega) huz]
 have gy:=N3 dy (k+1)
 have gy2:=N3 dy k
 rw [ht] at hFa
 refine ⟨fun l hp=>hp=h/\l=[U (val b64 ys/(b64^k*2^(64-s)))],?_,?_⟩
 ·refine E5 (fun e=>?_) (fun e=>?_)
  ·rw [hyl]
   refine sy.load rfl (by omega) (by omega) ?_
   simp only [C5i]
   refine B6 (fun e=>by rw [es] at e;omega) (fun _=>?_)
   refine sy.load rfl (by omega) (by omega) ?_
   simp only [C5i]
   refine B6 (fun e=>by rw [es,es2] at e;omega) (fun _=>?_)
   rw [hor _ _ gy.1 gy2 (by omega),hSb]
   first|exact ⟨rfl,rfl⟩|exact ⟨trivial,rfl⟩
  ·refine E5 (fun e=>?_) (fun e=>?_)
   ·rw [hyl]
    refine sy.load rfl (by omega) (by omega) ?_
    simp only [C5i]
    refine B6 (fun e=>by rw [es,es2] at e;omega) (fun _=>?_)
    have:ys.getD (k+1) 0=0:=by simp [C7s,C7k (show ys.length<=k+1 by omega)]
    rw [this,Int.zero_mul,Int.zero_add] at hSb
    rw [es,es2,C5i,B4f (by omega),hSb]
    first|exact ⟨rfl,rfl⟩|exact ⟨trivial,rfl⟩
   ·have t1:ys.getD (k+1) 0=0:=by simp [C7s,C7k (show ys.length<=k+1 by omega)]
    have t2:ys.getD k 0=0:=by simp [C7s,C7k (show ys.length<=k by omega)]
    rw [t1,t2,Int.zero_mul,Int.zero_add,Int.zero_ediv] at hSb
    rw [hSb]
    exact ⟨rfl,rfl⟩
 ·rintro second hp1 ⟨rfl,hl2⟩
  simp only [C5t,C62,and_true,true_and] at hl2
  subst hl2
  exact B4e (F:=val b64 xs/(b64^k*2^(64-s))) (by rw [hor _ _ (by omega) gt2 (by omega),hFa]) hW rfl rfl hb0 hba hFlt hK
end
theorem Win.swap{k k':IntKind}{h g1 g:Heap}{ba bb:Nat}{e e':TypeId}{A B:Option Addr}{pa qa pb qb:List Value}{us bs:List Int}(wa:Win k h g1 ba e A pa us qa)(wb:Win k' g1 g bb e' B pb bs qb):∃ g2,Win k' h g2 bb e' B pb bs qb/\Win k g2 g ba e A pa us qa:=by
 have hne:ba≠bb:=by
  rintro rfl
  have:=wa.free
  rw [wb.eq,C3] at this
  cases this
 have hga:g ba=none:=by
  have:=wa.free
  rwa [wb.eq,B9 _ _ hne] at this
 refine ⟨g.put ba (.cells (pa++us.map (C63 k)++qa).toArray e),⟨?_,?_,wb.at_⟩,⟨hga,rfl,wa.at_⟩⟩
 ·rw [B9 _ _ hne.symm];exact wb.free
 ·rw [wa.eq,wb.eq];exact Heap.put_comm _ _ _ hne.symm
theorem Xy{z y c:Int}(hz:0<=z/\z<18446744073709551616)(hy:0<=y/\y<18446744073709551616)(hc:0<=c/\c<=1):(z-y-c)%18446744073709551616=z-y-c+18446744073709551616*(if z-y-c<0 then 1 else 0):=by
 split<;>omega
theorem A1t(z:Int):z%18446744073709551616=z-18446744073709551616*(z/18446744073709551616):=by omega
theorem Ls{x y c:Int}(hx:0<=x/\x<18446744073709551616)(hy:0<=y/\y<18446744073709551616)(hc:0<=c/\c<18446744073709551616):0<=(x*y+c)/18446744073709551616/\(x*y+c)/18446744073709551616<18446744073709551616:=by
 have h0:=C67 hx.1 hy.1
 have h1:x*y<=18446744073709551615*y:=C5n (by omega) hy.1
 omega
theorem pin{v w B m:Int}(h:v=w+B*m)(hv:0<=v/\v<B)(hw:0<=w/\w<B):v=w:=by
 have hB:0<B:=by omega
 by_cases h0:m <= -1
 ·have:=C5l h0 (C60 hB);omega
 ·by_cases h1:1<=m
  ·have:=C5l h1 (C60 hB);omega
  ·obtain rfl:m=0:=by omega
   omega
section
variable {h g g1:Heap} {K:VP} {A B:Option Addr} {ac bc an bn ba bb:Nat} {e:TypeId} {qa qb:List Value}
set_option maxHeartbeats 1000000 in
theorem A83{us bs:List Int}{u0 u1 v0 v1:Int}{odd:Bool}(wa:Win .u64 h g1 ba e A [] us qa)(wb:Win .u64 g1 g bb e B [] bs qb)(ha:an=us.length)(hb:bn=bs.length)(hab:us.length=bs.length)(da:Dig b64 us)(db:Dig b64 bs)(hl:us.length<=1000000000)(hu0:0<=u0/\u0<18446744073709551616)(hu1:0<=u1/\u1<18446744073709551616)(hv0:0<=v0/\v0<18446744073709551616)(hv1:0<=v1/\v1<18446744073709551616)
 (hX0:0<=Jy (val b64 us) (val b64 bs) u0 v0 odd/\Jy (val b64 us) (val b64 bs) u0 v0 odd<b64^us.length) (hX1:0<=Jx (val b64 us) (val b64 bs) u1 v1 odd/\Jx (val b64 us) (val b64 bs) u1 v1 odd<b64^us.length)
 (hK:∀ us' bs' h' g1',us'.length=us.length->bs'.length=us.length->Dig b64 us'->Dig b64 bs'->val b64 us'=Jy (val b64 us) (val b64 bs) u0 v0 odd->val b64 bs'=Jx (val b64 us) (val b64 bs) u1 v1 odd->Win .u64 h' g1' ba e A [] us' qa->Win .u64 g1' g bb e B [] bs' qb->K (.tuple #[]) h'):
 FCall prog Yz #[.agg #[U u0,U u1,U v0,U v1,.bool odd],.slice A an ac,.slice B bn bc] h K:=by
 subst ha hb
 refine B2f _ _ _ _ _ _ _ _ _ _ _ ?_
 unfold B7c
 refine ⟨fun l hp=>∃ (k:Nat) (cP cQ cR cT bo lo:Int) (xs ys:List Int) (g1:Heap),l=[U cP,U cQ,U cR,U cT,U bo,U lo,I k]/\k<=us.length/\xs.length=us.length/\ys.length=us.length/\Dig b64 xs/\Dig b64 ys/\(0<=cP/\cP<18446744073709551616)/\(0<=cQ/\cQ<18446744073709551616)/\(0<=cR/\cR<18446744073709551616)/\(0<=cT/\cT<18446744073709551616)/\(0<=bo/\bo<=1)/\(0<=lo/\lo<=1)/\Win .u64 hp g1 ba e A [] xs qa/\Win .u64 g1 g bb e B [] ys qb/\xs.drop k=us.drop k/\ys.drop k=bs.drop k/\
  val b64 (xs.take k)=Jy (val b64 (us.take k)) (val b64 (bs.take k)) u0 v0 odd+b64^k*((if odd then cQ-cP else cP-cQ)+bo)/\val b64 (ys.take k)=Jx (val b64 (us.take k)) (val b64 (bs.take k)) u1 v1 odd+b64^k*((if odd then cT-cR else cR-cT)+lo),fun l _=>us.length-(iAt l 6).toNat,⟨0,0,0,0,0,0,0,us,bs,g1,rfl,by omega,rfl,hab.symm,da,db,by omega,by omega,by omega,by omega,by omega,by omega,wa,wb,rfl,rfl,by simp [val,Jy],by simp [val,Jx]⟩,?_⟩
 rintro cP cQ cR cT bo lo i hp ⟨k,cP',cQ',cR',cT',bo',lo',xs,ys,g1,hli,hk,hxl,hyl,dx,dy,hP,hQ,hR,hT,hbo,hlo,wx,wy,hdx,hdy,hvx,hvy⟩
 simp only [C5t,C62,and_true,true_and] at hli
 obtain ⟨rfl,rfl,rfl,rfl,rfl,rfl,rfl⟩:=hli
 refine B6 (fun h1=>?_) (fun h1=>?_)
 ·have gx:=N3 dx k
  have gy:=N3 dy k
  have hxx:=E6 hdx
  have hyy:=E6 hdy
  have vx:=C5 b64 us k
  have vy:=C5 b64 bs k
  obtain ⟨g2,wy2,wx2⟩:=wx.swap wy
  refine wx.sl.load hxl.symm (by omega) (by omega) ?_
  refine wy2.sl.load (by omega) (by omega) (by omega) ?_
  simp only [C5i]
  obtain ⟨aA,hA,_⟩:=SlV.at wx.sl (i:=k) (by simp;omega)
  obtain ⟨aB,hB,_⟩:=SlV.at wy.sl (i:=k) (by simp;omega)
  generalize hx0:xs.getD k 0=x at *
  generalize hy0:ys.getD k 0=y at *
  refine S2 gx hu0 hP ⟨_,_,rfl,?_⟩
  refine S2 gy hv0 hQ ⟨_,_,rfl,?_⟩
  refine S2 gy hv1 hR ⟨_,_,rfl,?_⟩
  refine S2 gx hu1 hT ⟨_,_,rfl,?_⟩
  have bP:=Ls gx hu0 hP
  have bQ:=Ls gy hv0 hQ
  have bR:=Ls gy hv1 hR
  have bT:=Ls gx hu1 hT
  have mP:=Dy (x*u0+cP)
  have mQ:=Dy (y*v0+cQ)
  have mR:=Dy (y*v1+cR)
  have mT:=Dy (x*u1+cT)
  have kP:=A1t (x*u0+cP)
  have kQ:=A1t (y*v0+cQ)
  have kR:=A1t (y*v1+cR)
  have kT:=A1t (x*u1+cT)
  have ek:B5 ((k:Int)+1)=((k+1:Nat):Int):=by rw [B7 (by omega) (by omega)];omega
  rw [ek]
  generalize (x*u0+cP)/18446744073709551616=cP2 at *
  generalize (y*v0+cQ)/18446744073709551616=cQ2 at *
  generalize (y*v1+cR)/18446744073709551616=cR2 at *
  generalize (x*u1+cT)/18446744073709551616=cT2 at *
  generalize (x*u0+cP)%18446744073709551616=p at *
  generalize (y*v0+cQ)%18446744073709551616=q at *
  generalize (y*v1+cR)%18446744073709551616=r at *
  generalize (x*u1+cT)%18446744073709551616=t at *
  have hpk:b64^(k+1)=b64^k*18446744073709551616:=C65 _ _
  cases odd with
  | true=>
   refine Br.of (fun _=>?_) (fun e=>by cases e)
   refine Ey mP mQ hbo ⟨_,_,rfl,aA,hA,by omega,by omega,wx.storeN F7 hA (by omega) ?_⟩
   intro h2 w2
   refine Ey mR mT hlo ⟨_,_,rfl,aB,hB,by omega,by omega,?_⟩
   obtain ⟨g3,wy3,wx3⟩:=w2.swap wy
   refine wy3.storeN F7 hB (by omega) ?_
   intro h4 w4
   obtain ⟨g5,wx5,wy5⟩:=w4.swap wx3
   refine ⟨⟨k+1,_,_,_,_,_,_,_,_,g5,rfl,by omega,by simpa using hxl,by simpa using hyl,dx.set (Dy _),dy.set (Dy _),bP,bQ,bR,bT,by split<;>omega,by split<;>omega,wx5,wy5,?_,?_,?_,?_⟩,by simp only [iAt,C5o,C5p];omega⟩
   ·rw [D6 (by omega)];exact D8 hdx
   ·rw [D6 (by omega)];exact D8 hdy
   ·rw [D0 (by omega),F0,C5q,C5v (by omega),hpk,vx,vy,<- hxx,<- hyy,hvx,Xy mP mQ hbo]
    simp only [Jy,if_true]
    grind
   ·rw [D0 (by omega),F0,C5q,C5v (by omega),hpk,vx,vy,<- hxx,<- hyy,hvy,Xy mR mT hlo]
    simp only [Jx,if_true]
    grind
  | false=>
   refine Br.of (fun e=>by cases e) (fun _=>?_)
   refine Ey mQ mP hbo ⟨_,_,rfl,aA,hA,by omega,by omega,wx.storeN F7 hA (by omega) ?_⟩
   intro h2 w2
   refine Ey mT mR hlo ⟨_,_,rfl,aB,hB,by omega,by omega,?_⟩
   obtain ⟨g3,wy3,wx3⟩:=w2.swap wy
   refine wy3.storeN F7 hB (by omega) ?_
   intro h4 w4
   obtain ⟨g5,wx5,wy5⟩:=w4.swap wx3
   refine ⟨⟨k+1,_,_,_,_,_,_,_,_,g5,rfl,by omega,by simpa using hxl,by simpa using hyl,dx.set (Dy _),dy.set (Dy _),bP,bQ,bR,bT,by split<;>omega,by split<;>omega,wx5,wy5,?_,?_,?_,?_⟩,by simp only [iAt,C5o,C5p];omega⟩
   ·rw [D6 (by omega)];exact D8 hdx
   ·rw [D6 (by omega)];exact D8 hdy
   ·rw [D0 (by omega),F0,C5q,C5v (by omega),hpk,vx,vy,<- hxx,<- hyy,hvx,Xy mQ mP hbo]
    simp only [Jy,C71,if_false]
    grind
   ·rw [D0 (by omega),F0,C5q,C5v (by omega),hpk,vx,vy,<- hxx,<- hyy,hvy,Xy mT mR hlo]
    simp only [Jx,C71,if_false]
    grind
 ·obtain rfl:k=us.length:=by omega
  rw [C5m (show xs.length<=us.length by omega),C7a,C5m (show bs.length<=us.length by omega)] at hvx
  rw [C5m (show ys.length<=us.length by omega),C7a,C5m (show bs.length<=us.length by omega)] at hvy
  have bx:=L5 (by decide) dx
  have by_:=L5 (by decide) dy
  rw [hxl] at bx
  rw [hyl] at by_
  exact hK xs ys hp g1 hxl hyl dx dy (pin hvx ⟨C8 (by decide) dx,bx⟩ hX0) (pin hvy ⟨C8 (by decide) dy,by_⟩ hX1) wx wy
end
theorem Win.priv{k:IntKind}{h g:Heap}{b m c:Nat}{e:TypeId}{A:Option Addr}{xs:List Int}{post:List Value}(w:Win k h g b e A [] xs post)(hx:xs≠[])(hc:c=xs.length+post.length)(hm:m<=xs.length):Priv h g e 1 A m c ((xs.take m).map (C63 k)):=by
 refine ⟨by simp;omega,by omega,.inr ⟨b,xs.map (C63 k)++post,?_,w.free,?_,by simp;omega,?_⟩⟩
 ·rcases w.at_ with h0|h0
  ·exact absurd h0 hx
  ·simpa using h0
 ·have:=w.eq
  rwa [C6w] at this
 ·rw [C6e,C68 (by simp;omega),List.map_take]
theorem Eo{k:IntKind}{h g:Heap}{n c:Nat}{e:TypeId}{A:Option Addr}{xs:List Int}(p:Priv h g e 1 A n c (xs.map (C63 k)))(hx:xs≠[]):∃ b post,Win k h g b e A [] xs post/\c=xs.length+post.length:=by
 obtain ⟨h1,h2,h3⟩:=p
 rw [List.length_map] at h1
 rcases h3 with ⟨hc,rfl⟩|⟨b,arr,hA,hb,rfl,h4,h5⟩
 ·exact absurd (C5k (by omega)) hx
 ·refine ⟨b,arr.drop (n*1),⟨hb,?_,.inr hA⟩,?_⟩
  ·rw [C6w,<- h5,C7h]
  ·rw [C5x];omega
theorem Priv.swap{h g1 g:Heap}{e e':TypeId}{s s' n c m d:Nat}{A B:Option Addr}{xs ys:List Value}(pa:Priv h g1 e s A n c xs)(pb:Priv g1 g e' s' B m d ys):∃ g2,Priv h g2 e' s' B m d ys/\Priv g2 g e s A n c xs:=by
 obtain ⟨a1,a2,a3⟩:=pa
 obtain ⟨b1,b2,b3⟩:=pb
 rcases a3 with ⟨hc,rfl⟩|⟨ba,arr,hA,hfa,rfl,a4⟩
 ·exact ⟨g,⟨b1,b2,b3⟩,⟨a1,a2,.inl ⟨hc,rfl⟩⟩⟩
 ·rcases b3 with ⟨hd,rfl⟩|⟨bb,brr,hB,hfb,rfl,b4⟩
  ·exact ⟨_,⟨b1,b2,.inl ⟨hd,rfl⟩⟩,⟨a1,a2,.inr ⟨ba,arr,hA,hfa,rfl,a4⟩⟩⟩
  ·have hne:ba≠bb:=by
    rintro rfl
    rw [C3] at hfa;cases hfa
   rw [B9 _ _ hne] at hfa
   refine ⟨g.put ba (.cells arr.toArray e),⟨b1,b2,.inr ⟨bb,brr,hB,?_,Heap.put_comm _ _ _ hne.symm,b4⟩⟩,⟨a1,a2,.inr ⟨ba,arr,hA,hfa,rfl,a4⟩⟩⟩
   rw [B9 _ _ hne.symm];exact hfb
abbrev Pw(h g:Heap)(A:Option Addr)(n c:Nat)(us:List Int):Prop:=Priv h g C1 1 A n c (us.map (C63 .u64))
def GI(h:Heap)(G:Nat)(hp:Heap)(A:Option Addr)(n c:Nat)(B:Option Addr)(m d:Nat):Prop:=∃ (us vs:List Int) (g1 g:Heap),h.le g/\Pw hp g1 A n c us/\Pw g1 g B m d vs/\Dig b64 us/\Dig b64 vs/\Norm us/\Norm vs/\n=us.length/\m=vs.length/\val b64 vs<=val b64 us/\C81 (val b64 us) (val b64 vs)=G/\us.length<=100000000
theorem B0u{a b:Int}(ha:0<=a)(hb:0<=b):C81 b (a%b)=C81 a b:=by
 obtain ⟨x,rfl⟩:=C6n ha
 obtain ⟨y,rfl⟩:=C6n hb
 rw [<- C7z,C6m,C6m,Nat.gcd_comm x,Nat.gcd_comm y,<- Nat.gcd_rec]
section
variable {h g:Heap} {K:VP} {A B:Option Addr} {ac bc:Nat}
set_option maxHeartbeats 1000000 in
theorem B4u{G an bn:Nat}{hp:Heap}(gl:Gtz h)(gi:GI h G hp A an ac B bn bc)(hK:∀ A' m c' h',h.le h'->m<=c'->Mw h' A' m (G:Int)->K (.slice A' m c') h'):Kk prog K A an ac B bn bc hp:=by
 unfold Kk
 refine ⟨fun l hp=>∃ (A B:Option Addr) (n c m d:Nat),l=[.slice A n c,.slice B m d]/\GI h G hp A n c B m d,fun l hp=>match l with|[_,.slice B n _]=>B0i b64 hp B n|_=>0,⟨_,_,_,_,_,_,rfl,gi⟩,?_⟩
 rintro A1 n1 c1 B1 m1 d1 hp ⟨A,B,n,c,m,d,hl,us,vs,g1,g,lg,pa,pb,du,dv,nu,nv,hn,hm,hvu,hgcd,hul⟩
 simp only [C5t,C5y,and_true] at hl
 obtain ⟨⟨rfl,rfl,rfl⟩,rfl,rfl,rfl⟩:=hl
 have Ma:Mw hp A1 n1 (val b64 us):=⟨us,hn,pa.slV,du,nu,rfl⟩
 have Mb:Mw hp B1 m1 (val b64 vs):=⟨vs,hm,SlV.mono pa.le pb.slV,dv,nv,rfl⟩
 have hca:=pa.2.1
 have hcb:=pb.2.1
 have hu0:=C8 (by decide) du
 have hv0:=C8 (by decide) dv
 have hmn:m1<=n1:=Mb.len_le (by decide) (C7t hvu (Ma.lt (by decide)))
 have lhp:h.le hp:=B0 lg (B0 pb.le pa.le)
 have hbz:=Mb.len_zero (by decide)
 refine B6 (fun h1=>?_) (fun h1=>?_)
 ·refine Ya Ma Mb hvu (by omega) (by omega) ?_
  intro u0 u1 v0 v1 odd st
  refine ⟨_,_,_,_,_,rfl,E5 (fun e=>?_) (fun e=>?_)⟩
  ·refine S6 Ma Mb hca hcb (by omega) (by omega) (by omega) ?_
   intro A2 m2 c2 A3 m3 c3 h6 l6 k2 k3 M2 M3
   refine ⟨_,_,_,_,_,_,rfl,?_⟩
   have hm3:m3<=m1:=M3.len_le (by decide) (by have:=C5r (val b64 us) (show 0<val b64 vs by omega);have:=Mb.lt (by decide);omega)
   obtain ⟨ws,hwl,sws,dws,nws,hwv⟩:=M3
   refine Ef sws hwl (by omega) ?_
   intro A4 c4 h7 g7 l7 p7
   obtain ⟨g2,pb2,pa2⟩:=pa.swap pb
   obtain ⟨g8,l8,pb8⟩:=pb2.after (B0 l6 l7)
   obtain ⟨g9,pB9,pA9⟩:=Priv.swap p7 pb8
   have hlt:=C5r (val b64 us) (show 0<val b64 vs by omega)
   have Mn:Mw h7 A4 ws.length (val b64 ws):=⟨ws,rfl,p7.slV,dws,nws,rfl⟩
   refine ⟨_,_,_,rfl,⟨_,_,_,_,_,_,rfl,vs,ws,g9,g8,B0 lg (B0 pa2.le l8),pB9,pA9,dv,dws,nv,nws,hm,rfl,by omega,?_,by omega⟩,?_⟩
   ·rw [hwv,B0u hu0 hv0];exact hgcd
   ·simp only [Ak Mn,Ak Mb]
    have:=C8 (by decide) dws
    omega
  ·obtain ⟨hu0',hu1',hv0',hv1',lh⟩:=st
   have lh:=lh e
   unfold Ql
   obtain ⟨g2,pb2,pa2⟩:=pa.swap pb
   refine ⟨fun l hp=>∃ (B:Option Addr) (m d j:Nat) (g1 g:Heap),l=[.slice B m d]/\h.le g/\Pw hp g1 B m d (vs++C5h j 0)/\Pw g1 g A1 n1 c1 us/\m=vs.length+j/\m<=n1,fun l _=>match l with|[.slice _ m _]=>n1-m|_=>0,⟨B1,m1,d1,0,g2,g,rfl,lg,by simpa using pb2,pa2,by omega,hmn⟩,?_⟩
   rintro B2 m2 d2 hp8 ⟨B',m',d',j,g3,g4,hl2,lg4,pb3,pa3,hmj,hmn2⟩
   simp only [C5t,C5y,and_true] at hl2
   obtain ⟨rfl,rfl,rfl⟩:=hl2
   refine B6 (fun h2=>?_) (fun h2=>?_)
   ·refine De P7 pb3 rfl rfl (by omega) (by omega) ?_
    intro A5 c5 h5 g5 l5 p5
    obtain ⟨g6,l6,pa6⟩:=pa3.after l5
    refine ⟨⟨A5,m2+1,c5,j+1,g5,g6,rfl,B0 lg4 l6,?_,pa6,by omega,by omega⟩,by simp only;omega⟩
    have p6:=p5
    rw [<- C7r (f:=C63 .u64),<- C7i,C5u,<- C6t] at p6
    exact p6
   ·obtain ⟨g5,pa5,pb5⟩:=pb3.swap pa3
    have hvl:(vs++C5h j (0:Int)).length=us.length:=by simp;omega
    have hune:us≠[]:=by rintro rfl;simp at hn;omega
    have hvne:vs++C5h j (0:Int)≠[]:=by intro h0;rw [h0] at hvl;simp at hvl;exact hune (C5k hvl.symm)
    obtain ⟨ba,qa,wa,hqa⟩:=Eo pa5 hune
    obtain ⟨bb,qb,wb,hqb⟩:=Eo pb5 hvne
    have hgl:=lh.gcd
    have hord:=lh.ord
    have hle:=lh.le
    have hblt:val b64 vs<b64^us.length:=by rw [<- hn];exact C7t hvu (Ma.lt (by decide))
    refine A83 wa wb hn (by omega) hvl.symm du (dv.append (I5 (by decide) _)) (by omega) hu0' hu1' hv0' hv1' (by rw [Cr];omega) (by rw [Cr];omega) ?_
    intro us' vs' h6 g6 hul' hvl' du' dv' hX0 hX1 wa' wb'
    rw [Cr] at hX0 hX1
    have hune':us'≠[]:=by rintro rfl;simp at hul';exact hune (C5k hul'.symm)
    have hvne':vs'≠[]:=by rintro rfl;simp at hvl';exact hune (C5k hvl'.symm)
    refine ⟨rfl,?_⟩
    rw [show n1=us'.length by omega]
    refine Dm wa'.sl (by omega) (by omega) ?_
    intro k1 hk1 nk1 vk1
    refine ⟨_,_,_,rfl,?_⟩
    rw [show m2=vs'.length by omega]
    refine Dm (SlV.mono wa'.le wb'.sl) (by omega) (by omega) ?_
    intro k2 hk2 nk2 vk2
    have pA:=wa'.priv (m:=k1) (c:=c1) hune' (by omega) hk1
    have pB:=wb'.priv (m:=k2) (c:=d2) hvne' (by omega) hk2
    have e1:(us'.take k1).length=k1:=by rw [C5q];omega
    have e2:(vs'.take k2).length=k2:=by rw [C5q];omega
    have Mn:Mw h6 B2 k2 (val b64 (vs'.take k2)):=⟨vs'.take k2,e2.symm,SlV.mono pA.le pB.slV,dv'.take _,nk2,rfl⟩
    refine ⟨_,_,_,rfl,⟨_,_,_,_,_,_,rfl,us'.take k1,vs'.take k2,_,_,lg4,pA,pB,du'.take _,dv'.take _,nk1,nk2,e1.symm,e2.symm,?_,?_,by omega⟩,?_⟩
    ·rw [vk1,vk2,hX0,hX1];omega
    ·rw [vk1,vk2,hX0,hX1,hgl];exact hgcd
    ·simp only [Ak Mn,Ak Mb]
     rw [vk2,hX1];omega
 ·refine E5 (fun h2=>?_) (fun h2=>?_)
  ·have h0:val b64 vs=0:=hbz.2 (by omega)
   rw [h0,Int.gcd_zero_right] at hgcd
   refine hK _ _ _ _ lhp hca ?_
   rw [<- hgcd,Int.natAbs_of_nonneg hu0];exact Ma
  ·have hm1:m1=1:=by omega
   obtain ⟨w,rfl⟩:∃ w,vs=[w]:=by
    rcases vs with _|⟨w,_|⟨w',r⟩⟩
    ·simp at hm;omega
    ·exact ⟨w,rfl⟩
    ·simp at hm;omega
   have hw:=dv w (by simp)
   rw [V1] at *
   obtain ⟨t,rfl⟩:∃ t:Nat,w=(t:Int):=C6n hw.1
   have hw2:(t:Int)<18446744073709551616:=hw.2
   have ht0:0<t:=by omega
   have sb:SlI .u64 hp B1 [(t:Int)]:=SlV.mono pa.le pb.slV
   refine sb.load hm (by omega) (by omega) ?_
   refine sb.load hm (by omega) (by omega) ?_
   show FCall _ _ #[_,U ((t:Nat):Int)] _ _
   refine Lm Ma ⟨ht0,by omega⟩ (by omega) ⟨_,rfl,B4 _,?_⟩
   have r0:=C61 (val b64 us) (b:=(t:Int)) (by omega)
   have r1:=C5r (val b64 us) (show (0:Int)<(t:Int) by omega)
   have hgm:=B0u hu0 (show (0:Int)<=(t:Int) by omega)
   obtain ⟨r,hr⟩:=C6n r0
   rw [hr] at r1 hgm ⊢
   show FCall _ _ #[U ((t:Nat):Int),_] _ _
   refine A22 (gl.mono lhp) (by omega) (by omega) ⟨_,rfl,B4 _,?_⟩
   rw [C6m] at hgm
   have hle:C72 t r<=t:=Nat.le_of_dvd ht0 (Nat.gcd_dvd_left t r)
   refine Bh (by omega) ?_
   intro A2 m2 c2 h2 l2 k2 M2
   rw [hgm,hgcd] at M2
   exact ⟨_,_,_,rfl,l2,hK _ _ _ _ (B0 lhp l2) k2 M2⟩
theorem Lz{x y:Int}{an bn:Nat}(gl:Gtz h)(ma:Mw h A an x)(mb:Mw h B bn y)(ha:an<=ac)(hb:bn<=bc)(hl:an<=100000000)(hl2:bn<=100000000)(hK:∀ A' m c' h',h.le h'->m<=c'->Mw h' A' m (C81 x y:Int)->K (.slice A' m c') h'):FCall prog Fj #[.slice A an ac,.slice B bn bc] h K:=by
 refine A2o _ _ _ _ _ _ ?_
 unfold A2p
 refine ⟨fun l hp=>hp=h/\∃ (A B:Option Addr) (n c m d:Nat) (x1 y1:Int),l=[.slice A n c,.slice B m d]/\Mw h A n x1/\Mw h B m y1/\y1<=x1/\n<=c/\m<=d/\n<=100000000/\m<=100000000/\C81 x1 y1=C81 x y,?_,?_⟩
 ·refine J0 ma mb (by omega) ⟨_,rfl,B6 (fun h1=>?_) (fun h1=>?_)⟩
  ·rw [Cw] at h1
   exact ⟨rfl,_,_,_,_,_,_,_,_,rfl,mb,ma,by omega,hb,ha,hl2,hl,Int.gcd_comm _ _⟩
  ·rw [Cw] at h1
   exact ⟨rfl,_,_,_,_,_,_,_,_,rfl,ma,mb,by omega,ha,hb,hl,hl2,rfl⟩
 ·rintro A1 n1 c1 B1 m1 d1 hp ⟨rfl,A2,B2,n,c,m,d,x1,y1,hli,M1,M2,hle,k1,k2,l1,l2,hg⟩
  simp only [C5t,C5y,and_true] at hli
  obtain ⟨⟨rfl,rfl,rfl⟩,rfl,rfl,rfl⟩:=hli
  have hx0:=M1.nonneg (by decide)
  refine E5 (fun h1=>?_) (fun h1=>?_)
  ·have:y1=0:=(M2.len_zero (by decide)).2 (by omega)
   subst this
   rw [Int.gcd_zero_right] at hg
   refine hK _ _ _ _ (B4 _) k1 ?_
   rw [<- hg,Int.natAbs_of_nonneg hx0];exact M1
  ·obtain ⟨us,hul,su,du,nu,rfl⟩:=M1
   obtain ⟨vs,hvl,sv,dv,nv,rfl⟩:=M2
   refine Ef su hul (by omega) ?_
   intro A3 c3 h3 g3 l3 p3
   refine ⟨_,_,_,rfl,?_⟩
   refine Ef (SlV.mono (B0 l3 p3.le) sv) hvl (by omega) ?_
   intro A4 c4 h4 g4 l4 p4
   refine ⟨_,_,_,rfl,?_⟩
   obtain ⟨g5,l5,p5⟩:=p3.after l4
   obtain ⟨g6,pa,pb⟩:=Priv.swap p4 p5
   exact B4u gl ⟨us,vs,g6,g5,B0 l3 l5,pa,pb,du,dv,nu,nv,rfl,rfl,hle,hg,by omega⟩ hK
end
structure ZI (h:Heap) (s:Bool) (A:Option Addr) (n c:Nat) (z:Int):Prop where
 cap:n<=c
 mag:Mw h A n (z.natAbs:Int)
 sgn:s=decide (z<0)
theorem ZI.mono{h h':Heap}{s:Bool}{A:Option Addr}{n c:Nat}{z:Int}(i:ZI h s A n c z)(l:h.le h'):ZI h' s A n c z:=⟨i.cap,i.mag.mono l,i.sgn⟩
theorem ZI.zero{h:Heap}{A:Option Addr}:ZI h false A 0 0 0:=⟨C6q _,Mag.zero,rfl⟩
theorem ZI.len{h:Heap}{s:Bool}{A:Option Addr}{n c m:Nat}{z:Int}(i:ZI h s A n c z)(hz:ZB m z)(hm:m<=6400000000):n<=100000000:=by
 obtain ⟨k,hk⟩:∃ k,k=100000000:=⟨_,rfl⟩
 rw [<- hk]
 refine i.mag.len_le (by decide) ?_
 rw [Ju]
 have h1:(z.natAbs:Int)<2^m:=by
  have:((z.natAbs:Nat):Int)<((2^m:Nat):Int):=Int.ofNat_lt.2 hz
  simpa using this
 have h2:=D3 (B:=2) (by decide) (show m<=64*k by omega)
 exact Int.lt_of_lt_of_le h1 h2
theorem ZI.zeroIff{h:Heap}{s:Bool}{A:Option Addr}{n c:Nat}{z:Int}(i:ZI h s A n c z):z=0↔n=0:=by
 have:=i.mag.len_zero (by decide)
 omega
section
variable {h g:Heap} {K:VP} {A B:Option Addr} {s s':Bool} {an ac bn bc m:Nat} {x y:Int}
theorem O1{v:Nat}{n c:Nat}{neg:Bool}(M:Mw h A n (v:Int))(hc:n<=c)(hK:∀ s,ZI h s A n c (if neg then -(v:Int) else v)->K (.agg #[.bool s,.slice A n c]) h):FCall prog Q3 #[.bool neg,.slice A n c] h K:=by
 have h0:=M.len_zero (by decide)
 refine A8a _ _ _ _ ?_
 unfold B2b
 cases neg with
 | true=>
  refine Br.of (fun _=>hK _ ⟨hc,?_,?_⟩) (fun e=>by cases e)
  ·simpa using M
  ·simp only [if_true,decide_eq_decide];omega
 | false=>
  refine Br.of (fun e=>by cases e) (fun _=>hK _ ⟨hc,?_,?_⟩)
  ·simpa using M
  ·simp
theorem Cb(i:ZI h s A an ac x)(hK:∀ s',ZI h s' A an ac (-x)->K (.agg #[.bool s',.slice A an ac]) h):FCall prog Me #[.agg #[.bool s,.slice A an ac]] h K:=by
 refine B9j _ _ _ _ ?_
 unfold C4l
 refine O1 (neg:= !s) i.mag i.cap ?_
 intro s1 i1
 have e:(if (!s)=true then -(x.natAbs:Int) else x.natAbs)= -x:=by
  have:=i.sgn
  by_cases hx:x<0
  ·simp only [hx,decide_true] at this;subst this;simp;omega
  ·simp only [hx,decide_false] at this;subst this;simp;omega
 rw [e] at i1
 exact ⟨_,_,_,_,rfl,hK _ i1⟩
theorem A0p(i:ZI h s A an ac x)(j:ZI h s' B bn bc y)(hx:ZB m x)(hy:ZB m y)(hm:m<=6400000000)(hK:∀ s1 A' n' c' h',h.le h'->ZI h' s1 A' n' c' (x+y)->K (.agg #[.bool s1,.slice A' n' c']) h'):FCall prog A65 #[.agg #[.bool s,.slice A an ac],.agg #[.bool s',.slice B bn bc]] h K:=by
 have la:=i.len hx hm
 have lb:=j.len hy hm
 have hs:=i.sgn
 have hs':=j.sgn
 refine B9o _ _ _ _ _ _ _ _ ?_
 unfold C4p
 refine Br.of (fun e=>?_) (fun e=>?_)
 ·have e:s=s':=by simpa using e
  subst e
  refine R7 i.mag j.mag i.cap j.cap (by omega) (by omega) ?_
  intro A1 m1 c1 h1 l1 k1 M1
  refine ⟨_,_,_,rfl,l1,?_⟩
  rw [<- C7l] at M1
  refine O1 (neg:=s) M1 k1 ?_
  intro s1 i1
  refine ⟨_,_,_,_,rfl,B4 _,hK _ _ _ _ _ l1 ?_⟩
  have e2:(if s=true then -((x.natAbs+y.natAbs:Nat):Int) else ((x.natAbs+y.natAbs:Nat):Int))=x+y:=by
   cases s with
   | true=>have h1:=of_decide_eq_true hs.symm;have h2:=of_decide_eq_true hs'.symm;simp;omega
   | false=>have h1:=of_decide_eq_false hs.symm;have h2:=of_decide_eq_false hs'.symm;simp;omega
  rw [e2] at i1
  exact i1
 ·have e:s≠s':=by simpa using e
  refine J0 i.mag j.mag (by omega) ⟨_,rfl,B6 (fun h1=>?_) (fun h1=>?_)⟩
  ·have hge:¬ (x.natAbs:Int)<y.natAbs:=by rw [<- Cw];omega
   refine H8 i.mag j.mag i.cap (by omega) (by omega) ?_
   intro A1 m1 c1 h1 l1 k1 M1
   refine ⟨_,_,_,rfl,l1,?_⟩
   rw [show (x.natAbs:Int)-y.natAbs=((x.natAbs-y.natAbs:Nat):Int) by omega] at M1
   refine O1 (neg:=s) M1 k1 ?_
   intro s1 i1
   refine ⟨_,_,_,_,rfl,B4 _,hK _ _ _ _ _ l1 ?_⟩
   have e2:(if s=true then -((x.natAbs-y.natAbs:Nat):Int) else ((x.natAbs-y.natAbs:Nat):Int))=x+y:=by
    cases s with
    | true=>cases s' with
     | true=>exact absurd rfl e
     | false=>have h1:=of_decide_eq_true hs.symm;have h2:=of_decide_eq_false hs'.symm;rw [if_pos rfl];omega
    | false=>cases s' with
     | true=>have h1:=of_decide_eq_false hs.symm;have h2:=of_decide_eq_true hs'.symm;rw [if_neg (by simp)];omega
     | false=>exact absurd rfl e
   rw [e2] at i1
   exact i1
  ·have hge:(x.natAbs:Int)<y.natAbs:=by rw [<- Cw];omega
   refine H8 j.mag i.mag j.cap (by omega) (by omega) ?_
   intro A1 m1 c1 h1 l1 k1 M1
   refine ⟨_,_,_,rfl,l1,?_⟩
   rw [show (y.natAbs:Int)-x.natAbs=((y.natAbs-x.natAbs:Nat):Int) by omega] at M1
   refine O1 (neg:=s') M1 k1 ?_
   intro s1 i1
   refine ⟨_,_,_,_,rfl,B4 _,hK _ _ _ _ _ l1 ?_⟩
   have e2:(if s'=true then -((y.natAbs-x.natAbs:Nat):Int) else ((y.natAbs-x.natAbs:Nat):Int))=x+y:=by
    cases s with
    | true=>cases s' with
     | true=>exact absurd rfl e
     | false=>have h1:=of_decide_eq_true hs.symm;have h2:=of_decide_eq_false hs'.symm;rw [if_neg (by simp)];omega
    | false=>cases s' with
     | true=>have h1:=of_decide_eq_false hs.symm;have h2:=of_decide_eq_true hs'.symm;rw [if_pos rfl];omega
     | false=>exact absurd rfl e
   rw [e2] at i1
   exact i1
theorem Z2(i:ZI h s A an ac x)(j:ZI h s' B bn bc y)(hx:ZB m x)(hy:ZB m y)(hm:m<=6400000000)(hK:∀ s1 A' n' c' h',h.le h'->ZI h' s1 A' n' c' (x*y)->K (.agg #[.bool s1,.slice A' n' c']) h'):FCall prog Jj #[.agg #[.bool s,.slice A an ac],.agg #[.bool s',.slice B bn bc]] h K:=by
 have la:=i.len hx hm
 have lb:=j.len hy hm
 have hs:=i.sgn
 have hs':=j.sgn
 refine B9k _ _ _ _ _ _ _ _ ?_
 unfold C4m
 refine H9 i.mag j.mag i.cap j.cap (by omega) (by omega) ?_
 intro A1 m1 c1 h1 l1 k1 M1
 refine ⟨_,_,_,rfl,l1,?_⟩
 rw [<- C66] at M1
 refine O1 (neg:= !(s==s')) M1 k1 ?_
 intro s1 i1
 refine ⟨_,_,_,_,rfl,B4 _,hK _ _ _ _ _ l1 ?_⟩
 have e2:(if (!(s==s'))=true then -((x.natAbs*y.natAbs:Nat):Int) else ((x.natAbs*y.natAbs:Nat):Int))=x*y:=by
  rw [C66]
  cases s with
  | true=>cases s' with
   | true=>rw [show (x.natAbs:Int)= -x by have:=of_decide_eq_true hs.symm;omega,show (y.natAbs:Int)= -y by have:=of_decide_eq_true hs'.symm;omega];show -x * -y=x*y;exact Int.neg_mul_neg x y
   | false=>rw [show (x.natAbs:Int)= -x by have:=of_decide_eq_true hs.symm;omega,show (y.natAbs:Int)=y by have:=of_decide_eq_false hs'.symm;omega];show -(-x*y)=x*y;rw [Int.neg_mul,Int.neg_neg]
  | false=>cases s' with
   | true=>rw [show (x.natAbs:Int)=x by have:=of_decide_eq_false hs.symm;omega,show (y.natAbs:Int)= -y by have:=of_decide_eq_true hs'.symm;omega];show -(x * -y)=x*y;rw [Int.mul_neg,Int.neg_neg]
   | false=>rw [show (x.natAbs:Int)=x by have:=of_decide_eq_false hs.symm;omega,show (y.natAbs:Int)=y by have:=of_decide_eq_false hs'.symm;omega];rfl
 rw [e2] at i1
 exact i1
theorem Dl(gl:Gtz h)(i:ZI h s A an ac x)(j:ZI h s' B bn bc y)(hx:ZB m x)(hy:ZB m y)(hm:m<=6400000000)(hK:∀ A' n' c' h',h.le h'->ZI h' false A' n' c' (C81 x y:Int)->K (.agg #[.bool false,.slice A' n' c']) h'):FCall prog Pz #[.agg #[.bool s,.slice A an ac],.agg #[.bool s',.slice B bn bc]] h K:=by
 have la:=i.len hx hm
 have lb:=j.len hy hm
 refine B9m _ _ _ _ _ _ _ _ ?_
 unfold C4o
 refine Lz gl i.mag j.mag i.cap j.cap la lb ?_
 intro A1 m1 c1 h1 l1 k1 M1
 refine ⟨_,_,_,rfl,hK _ _ _ _ l1 ⟨k1,?_,?_⟩⟩
 ·rw [C6m] at M1
  rw [Int.natAbs_natCast]
  exact M1
 ·simp
theorem Ob(i:ZI h s A an ac x)(hK:K (I (Int.sign x)) h):FCall prog Tc #[.agg #[.bool s,.slice A an ac]] h K:=by
 have h0:=i.zeroIff
 have hs:=i.sgn
 refine B5k _ _ _ _ ?_
 unfold C1x
 refine E5 (fun e=>?_) (fun e=>?_)
 ·obtain rfl:x=0:=by omega
  simpa using hK
 ·refine Br.of (fun e2=>?_) (fun e2=>?_)
  ·subst e2
   have:=of_decide_eq_true hs.symm
   rw [Int.sign_eq_neg_one_of_neg this] at hK;exact hK
  ·subst e2
   have:=of_decide_eq_false hs.symm
   rw [Int.sign_eq_one_of_pos (by omega)] at hK;exact hK
end
section
variable {h g:Heap} {K:VP} {A B:Option Addr} {s s':Bool} {an ac bn bc m:Nat} {x y:Int}
theorem Z8(hs:s=decide (x<0)):(s=true/\x= -(x.natAbs:Int))\/(s=false/\x=(x.natAbs:Int)):=by
 by_cases h:x<0
 ·left;exact ⟨by rw [hs];simpa using h,by omega⟩
 ·right;exact ⟨by rw [hs];simpa using h,by omega⟩
theorem B44(a b:Nat):(a:Int).tdiv b=((a/b:Nat):Int)/\(-(a:Int)).tdiv (-(b:Int))=((a/b:Nat):Int)/\(-(a:Int)).tdiv b= -((a/b:Nat):Int)/\(a:Int).tdiv (-(b:Int))= -((a/b:Nat):Int):=by
 refine ⟨(C6d a b).symm,?_,?_,?_⟩
 ·rw [Int.neg_tdiv,Int.tdiv_neg,Int.neg_neg,C6d]
 ·rw [Int.neg_tdiv,C6d]
 ·rw [Int.tdiv_neg,C6d]
theorem B40(a b:Nat):(a:Int).tmod b=((a%b:Nat):Int)/\(-(a:Int)).tmod (-(b:Int))= -((a%b:Nat):Int)/\(-(a:Int)).tmod b= -((a%b:Nat):Int)/\(a:Int).tmod (-(b:Int))=((a%b:Nat):Int):=by
 refine ⟨(C6i a b).symm,?_,?_,?_⟩
 ·rw [Int.neg_tmod,Int.tmod_neg,C6i]
 ·rw [Int.neg_tmod,C6i]
 ·rw [Int.tmod_neg,C6i]
theorem A0m(i:ZI h s A an ac x)(j:ZI h s' B bn bc y)(hx:ZB m x)(hy:ZB m y)(hm:m<=6400000000)(hy0:y≠0)(hK:∀ s1 A1 n1 c1 s2 A2 n2 c2 h',h.le h'->ZI h' s1 A1 n1 c1 (x.tdiv y)->ZI h' s2 A2 n2 c2 (x.tmod y)->K (.tuple #[.agg #[.bool s1,.slice A1 n1 c1],.agg #[.bool s2,.slice A2 n2 c2]]) h'):FCall prog Td #[.agg #[.bool s,.slice A an ac],.agg #[.bool s',.slice B bn bc]] h K:=by
 have la:=i.len hx hm
 have lb:=j.len hy hm
 have hz:=j.zeroIff
 have cx:=Z8 i.sgn
 have cy:=Z8 j.sgn
 refine A87 _ _ _ _ _ _ _ _ ?_
 unfold B25
 refine E5 (fun e=>by omega) (fun _=>?_)
 refine S6 i.mag j.mag i.cap j.cap (by omega) (by omega) (by omega) ?_
 intro A1 m1 c1 A2 m2 c2 h1 l1 k1 k2 M1 M2
 refine ⟨_,_,_,_,_,_,rfl,?_⟩
 rw [<- C7b] at M1
 rw [<- C7z] at M2
 refine O1 (neg:= !(s==s')) M1 k1 ?_
 intro s1 i1
 refine ⟨_,_,_,_,rfl,B4 _,?_⟩
 refine O1 (neg:=s) M2 k2 ?_
 intro s2 i2
 refine ⟨_,_,_,_,rfl,B4 _,hK _ _ _ _ _ _ _ _ _ l1 ?_ ?_⟩
 ·have e:(if (!(s==s'))=true then -((x.natAbs/y.natAbs:Nat):Int) else ((x.natAbs/y.natAbs:Nat):Int))=x.tdiv y:=by
   have t:=B44 x.natAbs y.natAbs
   rcases cx with ⟨rfl,hx'⟩|⟨rfl,hx'⟩<;>rcases cy with ⟨rfl,hy'⟩|⟨rfl,hy'⟩<;>rw [<- hx',<- hy'] at t
   ·exact t.2.1.symm
   ·exact t.2.2.1.symm
   ·exact t.2.2.2.symm
   ·exact t.1.symm
  rw [e] at i1;exact i1
 ·have e:(if s=true then -((x.natAbs%y.natAbs:Nat):Int) else ((x.natAbs%y.natAbs:Nat):Int))=x.tmod y:=by
   have t:=B40 x.natAbs y.natAbs
   rcases cx with ⟨rfl,hx'⟩|⟨rfl,hx'⟩<;>rcases cy with ⟨rfl,hy'⟩|⟨rfl,hy'⟩<;>rw [<- hx',<- hy'] at t
   ·exact t.2.1.symm
   ·exact t.2.2.1.symm
   ·exact t.2.2.2.symm
   ·exact t.1.symm
  rw [e] at i2;exact i2
theorem F4(i:ZI h s A an ac x)(hK:K (.bool (decide (x=0))) h):FCall prog G0 #[.agg #[.bool s,.slice A an ac]] h K:=by
 have hz:=i.zeroIff
 refine A88 _ _ _ _ ?_
 unfold B26
 have:((an:Int)==0)=decide (x=0):=by
  by_cases hx:x=0
  ·simp [hx,hz.1 hx]
  ·have:¬ an=0:=fun e=>hx (hz.2 e)
   simp [hx,this]
 rw [this];exact hK
theorem S7(i:ZI h s A an ac x)(hK:K (.bool (decide (x=1))) h):FCall prog Bi #[.agg #[.bool s,.slice A an ac]] h K:=by
 have cx:=Z8 i.sgn
 have hz:=i.zeroIff
 have M:=i.mag
 refine B27 _ _ _ _ ?_
 unfold B77
 rcases cx with ⟨rfl,hx⟩|⟨rfl,hx⟩
 ·refine Br.of (fun e=>by cases e) (fun _=>?_)
  rw [show decide (x=1)=false by simp;omega] at hK;exact hK
 ·refine Br.of (fun _=>?_) (fun e=>by cases e)
  obtain ⟨xs,hxl,sx,dx,nx,hxv⟩:=M
  refine E5 (fun e=>?_) (fun e=>?_)
  ·obtain ⟨w,rfl⟩:∃ w,xs=[w]:=by
    rcases xs with _|⟨w,_|⟨w',r⟩⟩
    ·simp at hxl;omega
    ·exact ⟨w,rfl⟩
    ·simp at hxl;omega
   refine sx.load hxl (by omega) (by omega) ?_
   rw [V1] at hxv
   show K (.bool (w==1)) h
   have:(w==1)=decide (x=1):=by
    by_cases h1:x=1
    ·have:w=1:=by omega
     simp [h1,this]
    ·have:¬ w=1:=by omega
     simp [h1,this]
   rw [this];exact hK
  ·have:¬ x=1:=by
    rintro rfl
    have h1:=i.mag.len_le (j:=1) (by decide) (by decide)
    have h2:¬ an=0:=fun e=>by have:=hz.2 e;omega
    omega
   rw [show decide (x=1)=false by simp [this]] at hK;exact hK
theorem Bz(i:ZI h s A an ac x)(j:ZI h s' B bn bc y)(hx:ZB m x)(hy:ZB m y)(hm:m<=6400000000)(hy0:y≠0)(hK:∀ s1 A1 n1 c1 h',h.le h'->ZI h' s1 A1 n1 c1 (x.tdiv y)->K (.agg #[.bool s1,.slice A1 n1 c1]) h'):FCall prog Md #[.agg #[.bool s,.slice A an ac],.agg #[.bool s',.slice B bn bc]] h K:=by
 refine B9i _ _ _ _ _ _ _ _ ?_
 unfold C4k
 refine S7 j ⟨_,rfl,B6 (fun e=>?_) (fun e=>?_)⟩
 ·subst e
  exact hK _ _ _ _ _ (B4 _) (by rw [Int.tdiv_one];exact i)
 ·refine A0m i j hx hy hm hy0 ?_
  intro s1 A1 n1 c1 s2 A2 n2 c2 h1 l1 i1 i2
  exact ⟨_,_,_,_,_,_,_,_,rfl,hK _ _ _ _ _ l1 i1⟩
theorem A3j(i:ZI h s A an ac x)(j:ZI h s' B bn bc y)(hx:ZB m x)(hm:m<=6400000000)(hK:K (.bool (decide (x=y))) h):FCall prog Yy #[.agg #[.bool s,.slice A an ac],.agg #[.bool s',.slice B bn bc]] h K:=by
 have la:=i.len hx hm
 have cx:=Z8 i.sgn
 have cy:=Z8 j.sgn
 have hsx:=i.sgn
 have hsy:=j.sgn
 refine B29 _ _ _ _ _ _ _ _ ?_
 unfold B79
 refine Br.of (fun e=>?_) (fun e=>?_)
 ·have e:s=s':=by simpa using e
  refine J0 i.mag j.mag (by omega) ⟨_,rfl,?_⟩
  have:(Ux (x.natAbs:Int) y.natAbs==0)=decide (x=y):=by
   by_cases h1:x=y
   ·subst h1;unfold Ux;simp
   ·have h2:¬ x.natAbs=y.natAbs:=by
     rcases cx with ⟨rfl,hx'⟩|⟨rfl,hx'⟩<;>rcases cy with ⟨h3,hy'⟩|⟨h3,hy'⟩<;>(rw [<- e] at h3)<;>first|omega|(cases h3)
    unfold Ux
    by_cases h3:(x.natAbs:Int)<y.natAbs
    ·rw [if_pos h3];simp [h1]
    ·rw [if_neg h3,if_pos (by omega)];simp [h1]
  rw [this];exact hK
 ·have e:s≠s':=by simpa using e
  have:¬ x=y:=by rintro rfl;exact e (hsx.trans hsy.symm)
  rw [show decide (x=y)=false by simp [this]] at hK;exact hK
theorem Ca{n:Int}(h1: -9223372036854775808<=n)(h2:n<=9223372036854775807)(hK:∀ s1 A1 n1 c1 h',h.le h'->ZI h' s1 A1 n1 c1 n->K (.agg #[.bool s1,.slice A1 n1 c1]) h'):FCall prog Qa #[I n] h K:=by
 refine B9p _ ?_
 unfold C4q
 refine B6 (fun hn=>?_) (fun hn=>?_)
 ·have e:C0 (0-C0 n)=(n.natAbs:Int):=by rw [E9,E9];omega
  rw [e]
  refine Bh (by omega) ?_
  intro A1 m1 c1 h1 l1 k1 M1
  exact ⟨_,_,_,rfl,hK _ _ _ _ _ l1 ⟨k1,M1,by simpa using hn⟩⟩
 ·have e:C0 n=(n.natAbs:Int):=by rw [E9];omega
  rw [e]
  refine Bh (by omega) ?_
  intro A1 m1 c1 h1 l1 k1 M1
  exact ⟨_,_,_,rfl,hK _ _ _ _ _ l1 ⟨k1,M1,by simpa using hn⟩⟩
end
theorem A74{P:Program}{t d e:TypeId}(ht:P.underlying t=some .string)(hd:P.underlying d=some (.slice e))(he:P.underlying e=some (.int .u8)){h:Heap}{l:List UInt8}{K:VP}
 (x:∀ A c h',h.le h'->l.length<=c->SlV h' A (yv l)->K (.slice A l.length c) h'):wpH P (convert t d (.string (bs l))) K h:=by
 unfold convert
 simp only [C7,E8 ht,E8 hd,E8 he]
 unfold Conv.stringToBytes
 simp only [C7]
 refine Ik rfl (fun tt=>?_)
 have hsz:(bs l).size=l.length:=by simp [bs,C75]
 have hcap:l.length<=(Question.appendCap (bs l).size 0 e).cut tt:=by
  rw [hsz];simp only [Question.cut];omega
 generalize (Question.appendCap (bs l).size 0 e).cut tt=cap at *
 rw [Q8]
 intro b hb
 generalize hcs:((bs l).data.map (fun b=>C63 .u8 b.toNat)++C6p (cap-(bs l).size) (C63 .u8 0))=cs
 have hle:h.le (h.put b (.cells cs e (cs.size,cs.size+1))):=Heap.le_put _ hb
 have hfz:(h.put b (.cells cs e)).freeze { block:=b,off:=cs.size } 1=h.put b (.cells cs e (cs.size,cs.size+1)):=by
  unfold Heap.freeze
  rw [if_neg (by decide)]
  funext k
  by_cases hk:k=b
  ·subst hk
   simp only [if_true,C3,Option.map_some]
   rfl
  ·rw [if_neg hk,B9 _ _ hk,B9 _ _ hk]
 refine ⟨cs,e,_,C3 _ _ _,?_⟩
 refine ⟨⟨_,C3 _ _ _⟩,?_⟩
 show K (.slice (some ⟨b,0,none⟩) (bs l).size cap) ((h.put b (.cells cs e)).freeze { block:=b,off:=cs.size } 1)
 rw [hfz,hsz]
 refine x _ _ _ hle hcap (.inr ⟨_,rfl,?_⟩)
 intro i v hv
 have hi:i<l.length:=by
  have:=(List.getElem?_eq_some_iff.1 hv).1
  simpa [yv] using this
 have e1:Addr.add ⟨b,0,none⟩ i=⟨b,i,none⟩:=by rw [D9,C7c]
 rw [e1,E7,<- hcs,Array.getElem?_append_left (by simp [bs];exact hi)]
 rw [<- hv]
 simp [yv,bs]
theorem ZB.tdiv{m:Nat}{x y:Int}(h:ZB m x):ZB m (x.tdiv y):=by
 unfold ZB at *
 rw [Int.natAbs_tdiv]
 exact Nat.lt_of_le_of_lt (C80 _ _) h
section
variable {h g:Heap} {K:VP} {A B:Option Addr} {s s':Bool} {an ac bn bc m:Nat} {x y:Int}
end
theorem A7o{ws:List Int}{k:Nat}(d:Dig b64 ws)(hl:ws.length=k+1)(h:b64^k<=val b64 ws):Norm ws:=by
 unfold Norm
 intro e
 rw [C84,hl,Nat.add_sub_cancel] at e
 have:=(Bt (B:=b64) (by decide) d hl).1
 have e2:ws.getD k 0=0:=by simp [C7s,e]
 rw [e2] at this
 omega
section
variable {h g:Heap} {K:VP} {A B:Option Addr} {ac bc:Nat}
theorem B5a{Invv:LP}{muv:LN}{d1:ByteArray}{n c:Nat}{chunk base:Int}{us:List Int}{hp hp2:Heap}(p:Pw hp2 g A n c us)(hn:n=us.length)(du:Dig b64 us)(nu:Norm us)(hl:n<=100000000)(hch:0<=chunk/\chunk<18446744073709551616)(hba:1<=base/\base<18446744073709551616)
 (hK:∀ A' n' c' us' h' g',g.le g'->Pw h' g' A' n' c' us'->n'=us'.length->n'<=n+1->Dig b64 us'->Norm us'->val b64 us'=chunk+base*val b64 us->Invv [.string ((d1).extract ((B5 ((C7m (B5 (((C75 d1:Nat):Int)-(1:Int))) (19:Int))+(1:Int))).toNat) ((d1).size)),.slice A' n' c'] h'/\muv [.string ((d1).extract ((B5 ((C7m (B5 (((C75 d1:Nat):Int)-(1:Int))) (19:Int))+(1:Int))).toNat) ((d1).size)),.slice A' n' c'] h'<muv [.string d1,.slice A n c] hp):
 U8 prog Invv muv d1 A n c chunk base hp hp2:=by
 have hu0:=C8 (by decide) du
 unfold U8
 refine ⟨fun l hp3=>∃ (k:Nat) (ca:Int) (ws:List Int),l=[U ca,I k]/\k<=n/\(0<=ca/\ca<18446744073709551616)/\ws.length=us.length/\Dig b64 ws/\Pw hp3 g A n c ws/\ws.drop k=us.drop k/\val b64 (ws.take k)+b64^k*ca=chunk+base*val b64 (us.take k),fun l _=>n-(iAt l 1).toNat,⟨0,chunk,us,rfl,by omega,hch,rfl,du,p,rfl,by simp [val]⟩,?_⟩
 rintro ca i hp3 ⟨k,ca',ws,hli,hk,hca,hwl,dw,pw,hdr,hv⟩
 obtain ⟨rfl,rfl⟩:ca=ca'/\i=(k:Int):=by simpa using hli
 refine B6 (fun h1=>?_) (fun h1=>?_)
 ·have gw:=N3 dw k
  have hww:=E6 hdr
  have vu:=C5 b64 us k
  have hne:ws≠[]:=by rintro rfl;simp at hwl;omega
  obtain ⟨b,post,w,hc⟩:=Eo pw hne
  refine w.sl.load (by omega) (by omega) (by omega) ?_
  simp only [C5i]
  generalize hx:ws.getD k 0=x at *
  refine S2 gw (by omega) hca ⟨_,_,rfl,?_⟩
  obtain ⟨a,ha,_⟩:=SlV.at w.sl (i:=k) (by simp;omega)
  refine ⟨a,ha,by omega,by omega,w.storeN F7 ha (by omega) ?_⟩
  intro h4 w4
  have bP:=Ls gw (show 0<=base/\base<18446744073709551616 by omega) hca
  have kP:=A1t (x*base+ca)
  have ek:B5 ((k:Int)+1)=((k+1:Nat):Int):=by rw [B7 (by omega) (by omega)];omega
  rw [ek]
  have p4:=w4.priv (m:=n) (c:=c) (by intro e0;have:=congrArg List.length e0;rw [List.length_set,List.length_nil] at this;exact hne (C5k this)) (by simpa using hc) (by simp;omega)
  rw [C5m (by simp;omega)] at p4
  refine ⟨⟨k+1,_,_,rfl,by omega,bP,by simpa using hwl,dw.set (Dy _),p4,?_,?_⟩,by simp only [iAt,C5o,C5p];omega⟩
  ·rw [D6 (by omega)];exact D8 hdr
  ·rw [D0 (by omega),F0,C5q,C5v (by omega),C65,vu,<- hww,kP]
   show _+b64^k*_+b64^k*18446744073709551616*_=_
   generalize (x*base+ca)/18446744073709551616=q at *
   grind
 ·obtain rfl:k=n:=by omega
  rw [C5m (show ws.length<=k by omega),C5m (show us.length<=k by omega)] at hv
  refine N7 (fun h2=>?_) (fun h2=>?_)
  ·refine De P7 pw rfl rfl (by omega) (by omega) ?_
   intro A5 c5 h5 g5 l5 p5
   rw [<- C7r (f:=C63 .u64),<- C7i] at p5
   refine hK A5 (k+1) c5 (ws++[ca]) h5 g5 l5 p5 (by simp;omega) (by omega) (dw.append (Dig.one hca)) ?_ ?_
   ·unfold Norm;simpa using h2
   ·rw [F0,<- hv,hwl,<- hn]
  ·subst h2
   rw [Int.mul_zero,Int.add_zero] at hv
   refine hK A k c ws hp3 g (B4 _) pw (by omega) (by omega) dw ?_ hv
   rcases us with _|⟨u,r⟩
   ·have:ws=[]:=C5k (by simpa using hwl)
    rw [this];exact Norm.nil
   ·refine A7o (k:=r.length) dw (by simpa using hwl) ?_
    have M:Mw hp2 A k (val b64 (u::r)):=⟨_,hn,p.slV,du,nu,rfl⟩
    have hge:=M.ge (by decide) (by simp at hn;omega)
    rw [show k-1=r.length by simp at hn;omega] at hge
    have:1*val b64 (u::r)<=base*val b64 (u::r):=C5n hba.1 hu0
    omega
end
section
variable {h g:Heap} {K:VP} {A B:Option Addr} {ac bc:Nat}
theorem B69{k:Nat}(h:k<=19):10^k<=10000000000000000000:=C7e (C7n (by decide) h) (by decide)
theorem A82{Invv:LP}{muv:LN}{d1:ByteArray}{n c tn:Nat}{T:Option Addr}{l:List UInt8}{hp hp1:Heap}(sv:SlV hp1 T (yv l))(ht:tn=l.length)(hd:∀ c∈l,H1 c)(h19:l.length<=19)
 (hK:(0<=B5 ((C7m (B5 (((C75 d1:Nat):Int)-(1:Int))) (19:Int))+(1:Int))/\B5 ((C7m (B5 (((C75 d1:Nat):Int)-(1:Int))) (19:Int))+(1:Int))<=(((d1).size:Nat):Int))/\U8 prog Invv muv d1 A n c (J6 l:Int) ((10^l.length:Nat):Int) hp hp1):
 Di prog Invv muv d1 A n c T tn hp1 hp:=by
 subst ht
 unfold Di
 refine ⟨fun s hp=>hp=hp1/\∃ k:Nat,s=[U (J6 (l.take k)),U ((10^k:Nat):Int),I k]/\k<=l.length,fun s _=>l.length-(iAt s 2).toNat,⟨rfl,0,by simp [J6],by omega⟩,?_⟩
 rintro ch ba i hp2 ⟨rfl,k,hli,hk⟩
 simp only [C5t,C62,and_true,true_and] at hli
 obtain ⟨rfl,rfl,rfl⟩:=hli
 refine B6 (fun h1=>?_) (fun h1=>?_)
 ·have hkl:k<l.length:=by omega
  obtain ⟨a,ha,hc⟩:=SlV.at sv (i:=k) (by rw [Gs];omega)
  have hdc:=hd l[k] (C7x hkl)
  have hlt:=Fw (l:=l.take k) (fun c hc=>hd c (C7o hc))
  rw [C5q,C5v (by omega)] at hlt
  have ht1:=B69 (k:=k+1) (by omega)
  have hps:10^(k+1)=10^k*10:=Nat.pow_succ _ _
  refine ⟨a,ha,by omega,by omega,((l[k].toNat:Nat):Int),?_,?_⟩
  ·rw [C5i,C6e,hc];simp [yv]
  ·unfold H1 at hdc
   have e1:C0 (wu8 (((l[k].toNat:Nat):Int)-48))=((l[k].toNat-48:Nat):Int):=by
    rw [Vw (by omega) (by omega),C2 (by omega) (by omega)];omega
   have e2:C0 (C0 (10*((J6 (l.take k):Nat):Int))+C0 (wu8 (((l[k].toNat:Nat):Int)-48)))=((J6 (l.take (k+1)):Nat):Int):=by
    rw [e1,C2 (n:=10*((J6 (l.take k):Nat):Int)) (by omega) (by omega),C2 (by omega) (by omega),List.take_succ_eq_append_getElem hkl,Hs];omega
   have e3:C0 (((10^k:Nat):Int)*10)=((10^(k+1):Nat):Int):=by rw [C2 (by omega) (by omega),hps];simp
   have e4:B5 ((k:Int)+1)=((k+1:Nat):Int):=by rw [B7 (by omega) (by omega)];omega
   rw [e2,e3,e4]
   exact ⟨⟨rfl,k+1,rfl,by omega⟩,by simp only [iAt,C5o,C5p];omega⟩
 ·obtain rfl:k=l.length:=by omega
  rw [C7a]
  exact hK
theorem Qs{l:List UInt8}(hd:∀ c∈l,H1 c)(hl:l.length<=100000000)(hK:∀ A n c h',h.le h'->n<=c->Mw h' A n (J6 l:Int)->K (.slice A n c) h'):FCall prog M0 #[.string (bs l)] h K:=by
 refine Ug _ ?_
 unfold Qj Jo
 refine ⟨fun s hp=>∃ (l0 l1:List UInt8) (us:List Int) (A:Option Addr) (n c:Nat) (g:Heap),s=[.string (bs l1),.slice A n c]/\l=l0++l1/\h.le g/\Pw hp g A n c us/\n=us.length/\Dig b64 us/\Norm us/\val b64 us=(J6 l0:Int)/\n<=l0.length,fun s _=>match s with|[.string d,_]=>d.size|_=>0,⟨[],l,[],none,0,0,h,rfl,rfl,B4 h,Priv.nil _ _ _ _,rfl,Dig.nil,Norm.nil,rfl,by omega⟩,?_⟩
 rintro d1 A1 n1 c1 hp ⟨l0,l1,us,A2,n2,c2,g,hs,hll,lg,p,hn,du,nu,hv,hnl⟩
 simp only [C5t,C5y,Value.string.injEq,and_true] at hs
 obtain ⟨rfl,rfl,rfl,rfl⟩:=hs
 have hlen:l.length=l0.length+l1.length:=by rw [hll,C5j]
 rw [J4]
 refine B6 (fun h1=>?_) (fun h1=>?_)
 ·obtain ⟨sz,hsz⟩:∃ sz,sz=(l1.length-1)%19+1:=⟨_,rfl⟩
  have e1:B5 (C7m (B5 ((l1.length:Int)-1)) 19+1)=(sz:Int):=by
   rw [B7 (n:=(l1.length:Int)-1) (by omega) (by omega),C6x (by omega),B7 (by omega) (by omega)];omega
  rw [e1,C5i,N4]
  refine ⟨⟨by omega,by omega⟩,A74 V3 Ge.und Do ?_⟩
  intro T tc h2 l2 htc sv
  refine ⟨_,_,_,rfl,?_⟩
  have e2:(l1.drop 0).take (sz-0)=l1.take sz:=by simp
  rw [e2] at sv ⊢
  have e3:(l1.take sz).length=sz:=by rw [C5q];omega
  obtain ⟨g2,lg2,p2⟩:=p.after l2
  refine A82 sv rfl (fun c hc=>hd c (by rw [hll];exact List.mem_append_right _ (C7o hc))) (by omega) ?_
  rw [J4,e1]
  refine ⟨⟨by omega,by omega⟩,?_⟩
  have hlt:=Fw (l:=l1.take sz) (fun c hc=>hd c (by rw [hll];exact List.mem_append_right _ (C7o hc)))
  rw [e3] at hlt ⊢
  have ht:=B69 (k:=sz) (by omega)
  have hp1:0<10^sz:=C6v (by decide)
  refine B5a p2 hn du nu (by omega) (by omega) (by omega) ?_
  intro A' n' c' us' h' g' lg' p' hn' hnn du' nu' hv'
  rw [J4,e1,C5i,N4,C5m (by rw [C5x];omega)]
  refine ⟨⟨l0++l1.take sz,l1.drop sz,us',A',n',c',g',rfl,by rw [C5u,C7h];exact hll,B0 lg (B0 lg2 lg'),p',hn',du',nu',?_,by rw [C5j,e3];omega⟩,?_⟩
  ·rw [hv',hv,Fx,e3,C7l,C66,C5z];omega
  ·simp only [J4,C5x];omega
 ·have:l1=[]:=C5k (by omega)
  subst this
  rw [C69] at hll
  subst hll
  exact hK _ _ _ _ (B0 lg p.le) p.2.1 ⟨us,hn,p.slV,du,nu,hv⟩
end
def zb(l:List UInt8):List Int:=l.map fun c=>(c.toNat:Int)
theorem Gq(l:List UInt8):(zb l).length=l.length:=by simp [zb]
theorem A0o(a b:List UInt8):zb (a++b)=zb a++zb b:=by simp [zb]
theorem C0j(l:List UInt8):(zb l).map (C63 .u8)=yv l:=by simp [zb,yv]
theorem A7a:∀ v,v<100->J2[2*v+1]? = some (dch (v%10))/\J2[2*v]? = some (dch (v/10)):=by decide +kernel
theorem A0x(a:Nat):C7m (a:Int) 100=((a%100:Nat):Int):=(C6i a 100).symm
theorem tm4(a:Nat):C7m (a:Int) 10000=((a%10000:Nat):Int):=(C6i a 10000).symm
theorem tm8(a:Nat):C7m (a:Int) 100000000=((a%100000000:Nat):Int):=(C6i a 100000000).symm
theorem A3t(a:Nat):C70 (a:Int) 100=((a/100:Nat):Int):=(C6d a 100).symm
theorem td4(a:Nat):C70 (a:Int) 10000=((a/10000:Nat):Int):=(C6d a 10000).symm
theorem td8(a:Nat):C70 (a:Int) 100000000=((a/100000000:Nat):Int):=(C6d a 100000000).symm
theorem Gn{a:Nat}(h:a<4294967296):F9 (a:Int)=a:=N8 (by omega) (by omega)
theorem Lr(a:Nat):(a:Int)*2=((2*a:Nat):Int):=by omega
theorem A4w(a:Nat):(a:Int)+1=((a+1:Nat):Int):=by omega
def FBI(g:Heap)(b:Nat)(e:TypeId)(A:Option Addr)(pre post:List Value)(N u0 nd u:Nat)(hp:Heap):Prop:=
 ∃ (ys:List Int) (t:List UInt8),Win .u8 hp g b e A pre (ys++zb t) post/\ys.length=nd/\nd+t.length=N/\pad N u0=pad nd u++t/\u<10^nd
section
variable {P:Program} {h g:Heap} {K:VP} {A:Option Addr} {b:Nat} {e:TypeId} {pre post:List Value}
theorem Jv(one:P.cellsOf 5=1/\(P.info? 5).isSome=true){N u0 j u:Nat}(f:FBI g b e A pre post N u0 (j+2) u h){E1 E0 I1 I2:Int}(h1:E1=((2*(u%100)+1:Nat):Int))(h0:E0=((2*(u%100):Nat):Int))(hI1:I1=((j+1:Nat):Int))(hI2:I2=(j:Int)){C:Heap->Prop}(hC:∀ h',FBI g b e A pre post N u0 j (u/100) h'->C h'):
 ∃ (t:UInt8),(0<=E1/\J2[E1.toNat]? = some t)/\∃ (t0:UInt8),(0<=E0/\J2[E0.toNat]? = some t0)/\∃ a1,A=some a1/\0<=I1/\I1<((N:Nat):Int)/\wpH P (Instr.storeAt 5 (.pointer (some (Addr.add a1 (I1.toNat*1)))) (Y ((t.toNat:Nat):Int))) (fun _ hp1=>∃ a2,A=some a2/\0<=I2/\I2<((N:Nat):Int)/\wpH P (Instr.storeAt 5 (.pointer (some (Addr.add a2 (I2.toNat*1)))) (Y ((t0.toNat:Nat):Int))) (fun _ hp2=>C hp2) hp1) h:=by
 subst h1 h0 hI1 hI2
 obtain ⟨ys,t,w,hl,hN,hp,hu⟩:=f
 obtain ⟨s1,s0⟩:=A7a (u%100) (by omega)
 have hA:∃ a,A=some a:=by
  rcases w.at_ with h0|h0
  ·have:=congrArg List.length h0
   rw [C5j,List.length_nil] at this;omega
  ·exact ⟨_,h0⟩
 obtain ⟨a,ha⟩:=hA
 have hlt:(ys++zb t).length=N:=by rw [C5j,Gq];omega
 refine ⟨_,⟨by omega,by rw [C5i];exact s1⟩,_,⟨by omega,by rw [C5i];exact s0⟩,a,ha,by omega,by omega,?_⟩
 rw [C5i]
 refine w.storeN one ha (by omega) ?_
 intro h2 w2
 refine ⟨a,ha,by omega,by omega,?_⟩
 rw [C5i]
 refine w2.storeN one ha (by rw [List.length_set];omega) ?_
 intro h3 w3
 refine hC h3 ⟨ys.take j,[dch (u/10%10),dch (u%10)]++t,?_,by rw [C5q];omega,by simp;omega,?_,?_⟩
 ·have e1:((ys++zb t).set (j+1) ((dch (u%100%10)).toNat:Int)).set j ((dch (u%100/10)).toNat:Int)=ys.take j++zb ([dch (u/10%10),dch (u%10)]++t):=by
   have e2:ys=ys.take j++[ys[j]'(by omega),ys[j+1]'(by omega)]:=by
    conv=>lhs;rw [<- C7h j ys]
    congr 1
    rw [C74 (by omega),C74 (by omega),C5w (by omega)]
   have hj:(ys.take j).length=j:=by rw [C5q];omega
   rw [e2,show u%100%10=u%10 by omega,show u%100/10=u/10%10 by omega]
   generalize ys[j]'_=y0
   generalize ys[j+1]'_=y1
   rw [C68 (by omega),C5m (show (ys.take j).length<=j by omega)]
   generalize ys.take j=zs at *
   rw [C5u,List.set_append_right _ _ (by omega),List.set_append_right _ _ (by omega),hj,A0o]
   simp [zb]
  rw [e1] at w3;exact w3
 ·rw [hp,B8j];simp
 ·rw [C7p] at hu
  exact Nat.div_lt_of_lt_mul (by rw [C7d];exact hu)
end
section
variable {h g:Heap} {K:VP} {A:Option Addr} {b:Nat} {e:TypeId} {pre post:List Value}
theorem Kt:prog.cellsOf 5=1/\(prog.info? 5).isSome=true:=A78
theorem C18{N u0 nd x:Nat}(hN:N<=24)(f:FBI g b e A pre post N u0 nd x h)(hn:nd<2)(hK:∀ h',Win .u8 h' g b e A pre (zb (pad N u0)) post->K (.tuple #[]) h'):Az prog A N K nd x h:=by
 obtain ⟨ys,t,w,hl,hN,hp,hu⟩:=f
 unfold Az
 refine B6 (fun h1=>?_) (fun h1=>?_)
 ·obtain rfl:nd=1:=by omega
  obtain ⟨y,rfl⟩:∃ y,ys=[y]:=by
   rcases ys with _|⟨y,_|⟨z,r⟩⟩
   ·simp at hl
   ·exact ⟨y,rfl⟩
   ·simp at hl
  have hA:∃ a,A=some a:=by
   rcases w.at_ with h0|h0
   ·simp at h0
   ·exact ⟨_,h0⟩
  obtain ⟨a,ha⟩:=hA
  refine ⟨a,ha,by omega,by omega,?_⟩
  rw [show ((0:Int)).toNat=0 from rfl]
  refine w.storeN Kt ha (by simp) ?_
  intro h2 w2
  refine hK h2 ?_
  have hx:x<10:=by simpa using hu
  have ev:wu8 (F9 (48+(x:Int)))=((dch x).toNat:Int):=by
   rw [N8 (by omega) (by omega),Vw (by omega) (by omega),Ee hx];omega
  rw [ev] at w2
  have e2:pad 1 x=[dch x]:=by
   rw [Rf,B07 _ (by omega),show x%10=x by omega];rfl
  rw [hp,e2,A0o]
  simpa [zb] using w2
 ·obtain rfl:nd=0:=by omega
  have:ys=[]:=C5k hl
  subst this
  have hx:x=0:=by simpa using hu
  refine hK h ?_
  rw [hp,B07 _ hx]
  simpa using w
theorem C17{N u0 nd x:Nat}(hN:N<=24)(f:FBI g b e A pre post N u0 nd x h)(hn:nd<4)(hK:∀ h',Win .u8 h' g b e A pre (zb (pad N u0)) post->K (.tuple #[]) h'):Ba prog A N K nd x h:=by
 unfold Ba
 have hx:x<10000:=by
  obtain ⟨_,_,_,_,_,_,hu⟩:=f
  exact C6z hu (C7e (C7n (by decide) (show nd<=4 by omega)) (by decide))
 refine ⟨fun l hp=>∃ nd x:Nat,l=[I nd,U32 x]/\FBI g b e A pre post N u0 nd x hp/\nd<2,B6 (fun h1=>?_) (fun h1=>?_),?_⟩
 ·obtain ⟨j,rfl⟩:∃ j,nd=j+2:=⟨nd-2,by omega⟩
  refine Jv Kt f ?_ ?_ (by rw [B7 (by omega) (by omega)];omega) (by rw [B7 (by omega) (by omega)];omega) ?_
  ·simp (disch:=omega) only [A0x,Gn,Lr,A4w]
  ·simp (disch:=omega) only [A0x,Gn,Lr]
  ·intro h2 f2
   refine ⟨j,x/100,?_,f2,by omega⟩
   rw [B7 (by omega) (by omega),A3t,Gn (by omega)]
   simp only [C5t,C62,and_true,true_and];omega
 ·exact ⟨nd,x,rfl,f,by omega⟩
 ·rintro nd2 x2 hp ⟨n3,x3,hl,f3,hn3⟩
  obtain ⟨rfl,rfl⟩:nd2=(n3:Int)/\x2=(x3:Int):=by simpa using hl
  exact C18 hN f3 hn3 hK
theorem W6{u an ac:Nat}{xs:List Int}(w:Win .u8 h g b e A pre xs post)(hn:an=xs.length)(hN:an<=24)(hu:u<10^an)(hu2:u<18446744073709551616)(hK:∀ h',Win .u8 h' g b e A pre (zb (pad an u)) post->K (.tuple #[]) h'):FCall prog Q4 #[.slice A an ac,U (u:Int)] h K:=by
 refine Rc _ _ _ _ ?_
 unfold Nx
 refine ⟨fun l hp=>∃ nd v:Nat,l=[U v,I nd]/\FBI g b e A pre post an u nd v hp/\v<=u,fun l _=>(iAt l 1).toNat,⟨an,u,rfl,⟨xs,[],by simpa [zb] using w,hn.symm,by simp,by simp,hu⟩,C6q _⟩,?_⟩
 rintro u1 nd1 hp ⟨nd,v,hl,f,hv⟩
 obtain ⟨rfl,rfl⟩:u1=(v:Int)/\nd1=(nd:Int):=by simpa using hl
 have hnN:nd<=an:=by obtain ⟨_,_,_,_,hN,_,_⟩:=f;omega
 refine B6 (fun h1=>?_) (fun h1=>?_)
 ·obtain ⟨j,rfl⟩:∃ j,nd=j+8:=⟨nd-8,by omega⟩
  refine Jv (j:=j+6) Kt f ?_ ?_ (by rw [B7 (by omega) (by omega)];omega) (by rw [B7 (by omega) (by omega)];omega) ?_
  ·simp (disch:=omega) only [tm8,tm4,A0x,Gn,Lr,A4w];omega
  ·simp (disch:=omega) only [tm8,tm4,A0x,Gn,Lr];omega
  intro h2 f2
  refine Jv (j:=j+4) Kt f2 ?_ ?_ (by rw [B7 (by omega) (by omega)];omega) (by rw [B7 (by omega) (by omega)];omega) ?_
  ·simp (disch:=omega) only [tm8,tm4,A3t,Gn,Lr,A4w];omega
  ·simp (disch:=omega) only [tm8,tm4,A3t,Gn,Lr];omega
  intro h3 f3
  refine Jv (j:=j+2) Kt f3 ?_ ?_ (by rw [B7 (by omega) (by omega)];omega) (by rw [B7 (by omega) (by omega)];omega) ?_
  ·simp (disch:=omega) only [tm8,A0x,td4,Gn,Lr,A4w];omega
  ·simp (disch:=omega) only [tm8,A0x,td4,Gn,Lr];omega
  intro h4 f4
  refine Jv (j:=j) Kt f4 ?_ ?_ (by rw [B7 (by omega) (by omega)];omega) (by rw [B7 (by omega) (by omega)];omega) ?_
  ·simp (disch:=omega) only [tm8,A3t,td4,Gn,Lr,A4w];omega
  ·simp (disch:=omega) only [tm8,A3t,td4,Gn,Lr];omega
  intro h5 f5
  have e1:B5 (((j+8:Nat):Int)-8)=(j:Int):=by rw [B7 (by omega) (by omega)];omega
  have e2:C0 (C70 (v:Int) 100000000)=((v/100/100/100/100:Nat):Int):=by
   rw [td8,C2 (by omega) (by omega)];omega
  rw [e1,e2]
  exact ⟨⟨j,_,rfl,f5,by omega⟩,by simp only [iAt,C5o,C5p];omega⟩
 ·have hv8:v<100000000:=by
   obtain ⟨_,_,_,_,_,_,hu⟩:=f
   exact C6z hu (C7e (C7n (by decide) (show nd<=8 by omega)) (by decide))
  refine ⟨fun l hp=>∃ nd x:Nat,l=[I nd,U32 x]/\FBI g b e A pre post an u nd x hp/\nd<4,B6 (fun h2=>?_) (fun h2=>?_),?_⟩
  ·obtain ⟨j,rfl⟩:∃ j,nd=j+4:=⟨nd-4,by omega⟩
   refine Jv (j:=j+2) Kt f ?_ ?_ (by rw [B7 (by omega) (by omega)];omega) (by rw [B7 (by omega) (by omega)];omega) ?_
   ·simp (disch:=omega) only [tm4,A0x,Gn,Lr,A4w];omega
   ·simp (disch:=omega) only [tm4,A0x,Gn,Lr];omega
   intro h3 f3
   refine Jv (j:=j) Kt f3 ?_ ?_ (by rw [B7 (by omega) (by omega)];omega) (by rw [B7 (by omega) (by omega)];omega) ?_
   ·simp (disch:=omega) only [tm4,A3t,Gn,Lr,A4w];omega
   ·simp (disch:=omega) only [tm4,A3t,Gn,Lr];omega
   intro h4 f4
   refine ⟨j,v/100/100,?_,f4,by omega⟩
   rw [B7 (by omega) (by omega),Gn (by omega),td4,Gn (by omega)]
   simp only [C5t,C62,and_true,true_and];omega
  ·exact ⟨nd,v,by rw [Gn (by omega)],f,by omega⟩
  ·rintro nd2 x2 hp2 ⟨n3,x3,hl3,f3,hn3⟩
   obtain ⟨rfl,rfl⟩:nd2=(n3:Int)/\x2=(x3:Int):=by simpa using hl3
   exact C17 hN f3 hn3 hK
end
theorem Sw{P:Program}{h:Heap}{l:List UInt8}{m:Nat}{ys:List Value}(hy:ys=yv l)(hm:m=l.length){K:Array Value->Heap->Prop}(x:K ys.toArray h):wpH P (Builtin.firstCells 1 m (.string (bs l))) K h:=by
 subst hm hy
 show K _ h
 have e:((bs l).extract 0 l.length).data.map (fun b=>C63 .u8 b.toNat)=(yv l).toArray:=by
  rw [N4]
  apply Array.toList_inj.1
  simp [bs,yv]
 rw [e];exact x
theorem Tz{P:Program}{t e e' ty:TypeId}{z:Value}{bytes:Nat}(st:SliceT P t e z 1 bytes){h g:Heap}{A:Option Addr}{n c:Nat}{xs:List Value}(p:Priv h g e' 1 A n c xs)
 {B:Option Addr} {m d:Nat} {ys:List Value} (hy:ys.length=m) (hc:SlV h B ys) (h1:∀ v∈ys,A3f v=true) (hb:(2*(n+m)+192)*bytes<=281474976710656) (hm:n+m<=9223372036854775807) {K:VP}
 (x1:n+m<=c->∀ h',Priv h' g e' 1 A (n+m) c (xs++ys)->K (.slice A (n+m) c) h') (x2:c<n+m->∀ A' c' h' g',g.le g'->Priv h' g' e 1 A' (n+m) c' (xs++ys)->K (.slice A' (n+m) c') h'):
 wpH P (C6o #[t,t] ty #[.slice A n c,.slice B m d]) K h:=by
 obtain ⟨i,hi,hz,hsz,hby⟩:=st.parts
 have hposx:=st.pos
 have hp1:=p.1
 rw [C6e] at hp1
 unfold C6o
 simp only [C7j,C5o,C5p,C7,E8 st.und,L3 hi,G2,C71,if_false,Builtin.lenOf,hsz,Bool.not_false,if_true]
 by_cases hfit:n+m<=c
 ·simp only [hfit,if_true,C7]
  refine L6 (by omega) hc ?_
  rcases p.2.2 with ⟨hc0,hg⟩|⟨b,arr,hA,hgb,hh,hal,hat⟩
  ·have hn0:n=0:=by omega
   have hm0:m=0:=by omega
   subst hn0;subst hg
   have hys:ys=[]:=C5k (by omega)
   have hxs:xs=[]:=C5k (by omega)
   have fin:K (.slice A (0+m) c) h:=x1 hfit h ⟨by rw [hys,hxs,hm0];rfl,by omega,.inl ⟨hc0,rfl⟩⟩
   subst hys
   cases A with
   | none=>exact fin
   | some a=>exact fin
  ·subst hA
   simp only [C7,D9,C7c]
   rw [hh]
   rw [C6e] at hal hat ⊢
   refine J1 ys.toArray.toList n 0 arr ?_ (fun v hv=>h1 v (by simpa using hv)) ?_
   ·simp only
    omega
   ·simp only [G2,Nat.add_zero]
    refine x1 hfit _ ⟨by rw [C5j];omega,hfit,.inr ⟨b,_,rfl,hgb,rfl,?_,?_⟩⟩
    ·simp only [K5,C5j,C5q,C5x,hal,hy];omega
    ·have hl1:(arr.take n).length=n:=by rw [C5q,hal];omega
     unfold K5
     have t1:(arr.take n).take (n+m)=arr.take n:=C5m (by rw [hl1];omega)
     have t2:ys.take m=ys:=C5m (by omega)
     rw [C6e,C5u,C6s,hl1,C77,C6s,t1,t2,hy,Nat.sub_self,List.take_zero,C69,hat]
 ·have hlt:c<n+m:=by omega
  simp only [hfit,if_false,C7,I6 hi,hby]
  have hnx:=Ok hlt
  have hnb:Builtin.nextslicecap (n+m) c*bytes<=281474976710656:=C7e (Nat.mul_le_mul_right _ hnx) hb
  rw [if_neg (by rintro ⟨h',_⟩;simp only [IntKind.max,IntKind.signed,IntKind.bits] at h';simp at h';omega)]
  simp only [C7,I6 hi,hby]
  rw [if_neg (by simp only [show (2^48:Nat)=281474976710656 from rfl];omega)]
  simp only [G2,C7]
  refine Ik rfl fun tt=>?_
  simp only [Es,I6 hi]
  have hold:xs=[]\/∃ a,A=some a/\∀ j v,xs[j]? = some v->h.cell? (a.add j)=some v:=p.slV
  refine L6 p.1 hold ?_
  refine L6 (by omega) hc ?_
  simp only [Q7 hi hz,Q8]
  intro b hfree
  have hcut:∃ nc,(Question.appendCap (n+m) c e).cut tt=nc/\n+m<=nc:=⟨_,rfl,by simp only [Question.cut];omega⟩
  obtain ⟨nc,hnc,hge⟩:=hcut
  rw [hnc]
  have hgle:=p.le
  refine x2 hlt _ nc _ h hgle ⟨by rw [C5j];omega,hge,.inr ⟨b,xs++ys++(C6g z.cells (nc-(n+m))).toList,rfl,hfree,?_,?_,?_⟩⟩
  ·congr 1;simp
  ·have hzl:(C6g z.cells (nc-(n+m))).toList.length=nc-(n+m):=by simp [C6g,st.cells]
   rw [C5j,C5j,hp1,hy,hzl];omega
  ·rw [C6e,C68 (by rw [C5j];omega),C5m (by rw [C5j];omega)]
theorem A84{P:Program}{t e e' ty t2:TypeId}{z:Value}{bytes:Nat}(st:SliceT P t e z 1 bytes)(hu:P.underlying t2=some .string){h g:Heap}{A:Option Addr}{n c:Nat}{xs:List Value}(p:Priv h g e' 1 A n c xs)
 {m:Nat} {l:List UInt8} {ys:List Value} (hly:ys=yv l) (hm0:m=l.length) (hy:ys.length=m) (h1:∀ v∈ys,A3f v=true) (hb:(2*(n+m)+192)*bytes<=281474976710656) (hm:n+m<=9223372036854775807) {K:VP}
 (x1:n+m<=c->∀ h',Priv h' g e' 1 A (n+m) c (xs++ys)->K (.slice A (n+m) c) h') (x2:c<n+m->∀ A' c' h' g',g.le g'->Priv h' g' e 1 A' (n+m) c' (xs++ys)->K (.slice A' (n+m) c') h'):
 wpH P (C6o #[t,t2] ty #[.slice A n c,.string (bs l)]) K h:=by
 obtain ⟨i,hi,hz,hsz,hby⟩:=st.parts
 have hposx:=st.pos
 have hp1:=p.1
 rw [C6e] at hp1
 unfold C6o
 simp only [C7j,C5o,C5p,C7,E8 st.und,E8 hu,L3 hi,G2,C71,if_false,Builtin.lenOf,hsz,Bool.not_false,if_true,J4,<- hm0]
 by_cases hfit:n+m<=c
 ·simp only [hfit,if_true,C7]
  refine Sw hly hm0 ?_
  rcases p.2.2 with ⟨hc0,hg⟩|⟨b,arr,hA,hgb,hh,hal,hat⟩
  ·have hn0:n=0:=by omega
   have hm0:m=0:=by omega
   subst hn0;subst hg
   have hys:ys=[]:=C5k (by omega)
   have hxs:xs=[]:=C5k (by omega)
   have fin:K (.slice A (0+m) c) h:=x1 hfit h ⟨by rw [hys,hxs,hm0];rfl,by omega,.inl ⟨hc0,rfl⟩⟩
   subst hys
   cases A with
   | none=>exact fin
   | some a=>exact fin
  ·subst hA
   simp only [C7,D9,C7c]
   rw [hh]
   rw [C6e] at hal hat ⊢
   refine J1 ys.toArray.toList n 0 arr ?_ (fun v hv=>h1 v (by simpa using hv)) ?_
   ·simp only
    omega
   ·simp only [G2,Nat.add_zero]
    refine x1 hfit _ ⟨by rw [C5j];omega,hfit,.inr ⟨b,_,rfl,hgb,rfl,?_,?_⟩⟩
    ·simp only [K5,C5j,C5q,C5x,hal,hy];omega
    ·have hl1:(arr.take n).length=n:=by rw [C5q,hal];omega
     unfold K5
     have t1:(arr.take n).take (n+m)=arr.take n:=C5m (by rw [hl1];omega)
     have t2:ys.take m=ys:=C5m (by omega)
     rw [C6e,C5u,C6s,hl1,C77,C6s,t1,t2,hy,Nat.sub_self,List.take_zero,C69,hat]
 ·have hlt:c<n+m:=by omega
  simp only [hfit,if_false,C7,I6 hi,hby]
  have hnx:=Ok hlt
  have hnb:Builtin.nextslicecap (n+m) c*bytes<=281474976710656:=C7e (Nat.mul_le_mul_right _ hnx) hb
  rw [if_neg (by rintro ⟨h',_⟩;simp only [IntKind.max,IntKind.signed,IntKind.bits] at h';simp at h';omega)]
  simp only [C7,I6 hi,hby]
  rw [if_neg (by simp only [show (2^48:Nat)=281474976710656 from rfl];omega)]
  simp only [G2,C7]
  refine Ik rfl fun tt=>?_
  simp only [Es,I6 hi]
  have hold:xs=[]\/∃ a,A=some a/\∀ j v,xs[j]? = some v->h.cell? (a.add j)=some v:=p.slV
  refine L6 p.1 hold ?_
  refine Sw hly hm0 ?_
  simp only [Q7 hi hz,Q8]
  intro b hfree
  have hcut:∃ nc,(Question.appendCap (n+m) c e).cut tt=nc/\n+m<=nc:=⟨_,rfl,by simp only [Question.cut];omega⟩
  obtain ⟨nc,hnc,hge⟩:=hcut
  rw [hnc]
  have hgle:=p.le
  refine x2 hlt _ nc _ h hgle ⟨by rw [C5j];omega,hge,.inr ⟨b,xs++ys++(C6g z.cells (nc-(n+m))).toList,rfl,hfree,?_,?_,?_⟩⟩
  ·congr 1;simp
  ·have hzl:(C6g z.cells (nc-(n+m))).toList.length=nc-(n+m):=by simp [C6g,st.cells]
   rw [C5j,C5j,hp1,hy,hzl];omega
  ·rw [C6e,C68 (by rw [C5j];omega),C5m (by rw [C5j];omega)]
theorem Yl(l:List UInt8):∀ v∈yv l,A3f v=true:=by
 intro v hv
 simp only [yv,List.mem_map] at hv
 obtain ⟨c,_,rfl⟩:=hv
 rfl
theorem Fz{P:Program}{t:TypeId}{z v:Value}(hz:(P.info? t).map (fun i=>i.zero)=some (some z)){K:VP}{h:Heap}(x:∀ b,h b=none->K (.pointer (some ⟨b,0,none⟩)) (h.put b (.cells z.cells t))):wpH P (Instr.alloc t true v) K h:=by
 cases hi:P.info? t with
 | none=>rw [hi] at hz;cases hz
 | some i=>
  rw [hi] at hz
  simp only [Option.map_some,C7v] at hz
  unfold Instr.alloc
  simp only [C7,Q7 hi hz]
  unfold newVar
  simp only [Q8,G2]
  exact x
theorem A6m:(prog.info? Ru).map (fun i=>i.zero)=some (some (.agg (C6p 24 (.int .u8 0)))):=by kernel_rfl
def Gp(h:Heap):Prop:=∀ k,k<20->h.cell? (Addr.add ⟨2,0,none⟩ (k*1))=some (U ((10^k:Nat):Int))
theorem Gp.mono{h h':Heap}(g:Gp h)(l:h.le h'):Gp h':=fun k hk=>B8 l (g k hk)
section
variable {h g:Heap} {K:VP}
theorem Wb{i:Nat}(hi:i<100)(hK:K (.string (bs (N6 i))) h):FCall prog Ri #[I i] h K:=by
 refine B2r _ ?_
 unfold B7i
 have key:∀ i:Nat,i<100->(i<10->Yo.extract i (i+1)=bs (N6 i))/\(¬ i<10->J2.extract (2*i) (2*i+2)=bs (N6 i)):=by
  intro i hi
  have hd:N6 i=if i<10 then [dch i] else [dch (i/10),dch (i%10)]:=by
   split
   ·by_cases h0:i=0
    ·subst h0;rfl
    ·rw [Z1 h0,Be h0,show i/10=0 by omega,J9,show i%10=i by omega];rfl
   ·rw [Z1 (by omega),Be (by omega),Be (by omega),show i/10/10=0 by omega,J9,show i/10%10=i/10 by omega];rfl
  rw [hd]
  revert i
  decide +kernel
 obtain ⟨k1,k2⟩:=key i hi
 refine B6 (fun h1=>?_) (fun h1=>?_)
 ·have e1:B5 ((i:Int)+1)=((i+1:Nat):Int):=by rw [B7 (by omega) (by omega)];omega
  rw [e1,C5i,C5i,k1 (by omega)]
  exact ⟨⟨by omega,by show _<=((36:Nat):Int);omega⟩,⟨by omega,by omega⟩,hK⟩
 ·have e1:B5 ((i:Int)*2)=((2*i:Nat):Int):=by rw [B7 (by omega) (by omega)];omega
  have e2:B5 (((2*i:Nat):Int)+2)=((2*i+2:Nat):Int):=by rw [B7 (by omega) (by omega)];omega
  rw [e1,e2,C5i,C5i,k2 (by omega)]
  exact ⟨⟨by omega,by show _<=((200:Nat):Int);omega⟩,⟨by omega,by omega⟩,hK⟩
theorem Dg{d:Nat}(gp:Gp h)(h0:d≠0)(hd:d<18446744073709551616)(hK:K (I ((dd d).length:Int)) h):FCall prog Ab #[U (d:Int)] h K:=by
 refine A06 _ ?_
 unfold Xa
 have hb:N5 d<=64:=Hv hd
 obtain ⟨_,_,hn⟩:=B6i (N5 d) (by omega)
 refine A5x hd ⟨_,rfl,A07 _ ?_⟩
 unfold Xb
 have e1:C7u (B5 ((N5 d:Int)*78913)) (2^(min ((18:Int)).toNat 64))=((ndg (N5 d):Nat):Int):=by
  rw [show (2:Int)^(min ((18:Int)).toNat 64)=262144 by decide,Int.fdiv_eq_ediv_of_nonneg _ (by decide),B7 (by omega) (by omega)]
  unfold ndg;omega
 rw [e1]
 refine ⟨_,rfl,⟨by omega,by omega⟩,_,by rw [C5i];exact gp _ (by omega),B2s _ ?_⟩
 unfold B7j
 rw [C12 h0 hd] at hK
 refine B6 (fun h1=>⟨_,rfl,?_⟩) (fun h1=>⟨_,rfl,?_⟩)
 ·rw [if_pos (by omega)] at hK
  rw [B7 (by omega) (by omega)]
  exact hK
 ·rw [if_neg (by omega)] at hK
  rw [B7 (by omega) (by omega)]
  exact hK
theorem Ua{e':TypeId}{A:Option Addr}{n c i:Nat}{l:List UInt8}(gp:Gp h)(p:Priv h g e' 1 A n c (yv l))(hi:i<18446744073709551616)(hn:n<=1000000000000)
 (hK:∀ A' c' e2 h' g',g.le g'->Priv h' g' e2 1 A' (n+(N6 i).length) c' (yv (l++N6 i))->(n+(N6 i).length<=c->A'=A/\c'=c/\e2=e')->(e'=G1->e2=G1)->K (.slice A' (n+(N6 i).length:Nat) c') h'):FCall prog Fn #[.slice A n c,U (i:Int),I 10] h K:=by
 refine Vp _ _ _ _ _ ?_
 unfold Uq
 refine E5 (fun _=>?_) (fun e=>absurd rfl e)
 have hdl:(N6 i).length<=20:=(Rp (by decide)).2 (by show i<10^20;omega)
 refine B6 (fun h1=>?_) (fun h1=>?_)
 ·rw [B7 (by omega) (by omega)]
  refine Wb (by omega) ⟨_,rfl,?_⟩
  refine A84 Ge V3 p (l:=N6 i) rfl rfl (Gs _) (Yl _) (by omega) (by omega) ?_ ?_
  ·intro hf h' p'
   rw [<- T4] at p'
   exact ⟨_,_,_,rfl,hK _ _ _ _ _ (B4 _) p' (fun _=>⟨rfl,rfl,rfl⟩) id⟩
  ·intro hf A' c' h' g' lg p'
   rw [<- T4] at p'
   exact ⟨_,_,_,rfl,hK _ _ _ _ _ lg p' (fun e=>by omega) (fun _=>rfl)⟩
 ·refine Fz A6m ?_
  intro b hb
  have hz:(Value.agg (C6p 24 (.int .u8 0))).cells=((C5h 24 (0:Int)).map (C63 .u8)).toArray:=by rfl
  rw [hz]
  have w0:Win .u8 (h.put b (.cells ((C5h 24 (0:Int)).map (C63 .u8)).toArray Ru)) h b Ru (some ⟨b,0,none⟩) [] (C5h 24 (0:Int)) []:=⟨hb,by simp,.inr rfl⟩
  generalize (h.put b (.cells ((C5h 24 (0:Int)).map (C63 .u8)).toArray Ru))=h1' at *
  refine ⟨_,rfl,Dg (gp.mono w0.le) (by omega) hi ⟨_,rfl,?_⟩⟩
  have hdd:N6 i=dd i:=Z1 (by omega)
  rw [hdd] at hdl hK
  refine ⟨⟨by omega,by omega⟩,?_⟩
  rw [C5i,C6l]
  have w1:=w0.sub (l:=0) (m:=(dd i).length) (c:=24) (by omega) (by simp;omega) (by simp)
  have hw1:((C5h 24 (0:Int)).drop 0).take ((dd i).length-0)=C5h (dd i).length 0:=by
   rw [C73,C6j,C6l,C5v (by omega)]
  rw [hw1] at w1
  have hlt:i<10^(dd i).length:=Q5.1 (C6q _)
  refine W6 w1 (by simp) (by omega) hlt hi ?_
  intro h2 w2
  refine ⟨rfl,⟨by omega,by omega⟩,?_⟩
  have hpd:pad (dd i).length i=dd i:=by simp [pad]
  rw [hpd] at w2
  have hs:SlV h2 (L0 (some ⟨b,0,none⟩) 24 0 1) (yv (dd i)):=by
   have:=w2.sl
   unfold SlI at this
   rw [C0j] at this
   exact this
  have hh2:=w2.eq
  obtain ⟨o,ho⟩:∃ o,h2=h.put b o:=⟨_,hh2⟩
  subst ho
  have p2:=p.put hb o
  have lgg:g.le (g.put b o):=by
   intro k o' hk
   have hne:k≠b:=by
    rintro rfl
    rw [p.le k o' hk] at hb;cases hb
   rw [B9 _ _ hne];exact hk
  refine Tz Ge p2 (Gs _) hs (Yl _) (by omega) (by omega) ?_ ?_
  ·intro hf h' p'
   rw [<- T4] at p'
   exact ⟨_,_,_,rfl,hK _ _ _ _ _ lgg p' (fun _=>⟨rfl,rfl,rfl⟩) id⟩
  ·intro hf A' c' h' g' lg p'
   rw [<- T4] at p'
   exact ⟨_,_,_,rfl,hK _ _ _ _ _ (B0 lgg lg) p' (fun e=>by omega) (fun _=>rfl)⟩
end
structure Ext (g:Heap) (e':TypeId) (A:Option Addr) (n c:Nat) (l t:List UInt8) (A':Option Addr) (n' c':Nat) (e2:TypeId) (g' h':Heap):Prop where
 le:g.le g'
 priv:Priv h' g' e2 1 A' n' c' (yv (l++t))
 len:n'=n+t.length
 fit:n+t.length<=c->A'=A/\c'=c/\e2=e'
 tag:e'=G1->e2=G1
theorem Ext.trans{g g1 g2 h1 h2:Heap}{e' e1 e2:TypeId}{A A1 A2:Option Addr}{n c n1 c1 n2 c2:Nat}{l t s:List UInt8}(x:Ext g e' A n c l t A1 n1 c1 e1 g1 h1)(y:Ext g1 e1 A1 n1 c1 (l++t) s A2 n2 c2 e2 g2 h2):Ext g e' A n c l (t++s) A2 n2 c2 e2 g2 h2:=by
 refine ⟨B0 x.le y.le,?_,?_,?_,fun e=>y.tag (x.tag e)⟩
 ·have:=y.priv;rwa [C5u] at this
 ·rw [y.len,x.len,C5j];omega
 ·intro hf
  rw [C5j] at hf
  obtain ⟨rfl,rfl,rfl⟩:=x.fit (by omega)
  have hx:=x.len
  exact y.fit (by omega)
section
variable {h g:Heap} {K:VP} {A:Option Addr} {n c:Nat} {e':TypeId} {l:List UInt8}
theorem Gg{i:Nat}(gp:Gp h)(p:Priv h g e' 1 A n c (yv l))(hi:i<18446744073709551616)(hn:n<=1000000000000)
 (hK:∀ A' n' c' e2 g' h',Ext g e' A n c l (N6 i) A' n' c' e2 g' h'->K (.slice A' n' c') h'):FCall prog Ft #[.slice A n c,U (i:Int),I 10] h K:=by
 refine Vv _ _ _ _ _ ?_
 unfold Uw
 refine Ua gp p hi hn ?_
 intro A' c' e2 h' g' l1 p1 f1 b1
 exact ⟨_,_,_,rfl,hK _ _ _ _ _ _ ⟨l1,p1,rfl,f1,b1⟩⟩
theorem Ln{ch:UInt8}{v:Int}(hv:v=(ch.toNat:Int))(p:Priv h g e' 1 A n c (yv l))(hn:n<=1000000000000){KK:Option Addr->Nat->Nat->Heap->Prop}
 (x:∀ A' n' c' e2 g' h',Ext g e' A n c l [ch] A' n' c' e2 g' h'->KK A' n' c' h'):
 wpH prog (Instr.buildSlice Gu 1 #[(0,Y v)]) (fun v1 hp1=>∃ (A1:Option Addr) (n1 c1:Nat),v1= .slice A1 n1 c1/\wpH prog (C6o #[Gu,Gu] Gu #[.slice A n c,.slice A1 n1 c1]) (fun v2 hp2=>∃ (A2:Option Addr) (n2 c2:Nat),v2= .slice A2 n2 c2/\KK A2 n2 c2 hp2) hp1) h:=by
 subst hv
 refine Al Ge rfl ?_
 intro b hfree
 refine ⟨_,_,_,rfl,?_⟩
 have p':=p.put hfree (.cells #[Y (ch.toNat:Int)] G1)
 have lgg:g.le (g.put b (.cells #[Y (ch.toNat:Int)] G1)):=by
  intro k o' hk
  have hne:k≠b:=by
   rintro rfl
   rw [p.le k o' hk] at hfree;cases hfree
  rw [B9 _ _ hne];exact hk
 have hs:SlV (h.put b (.cells #[Y (ch.toNat:Int)] G1)) (some ⟨b,0,none⟩) (yv [ch]):=by
  refine .inr ⟨_,rfl,fun j u hj=>?_⟩
  rw [D9,E7]
  match j with
  | 0=>simpa [yv] using hj
  | j+1=>simp [yv] at hj
 refine Tz Ge p' (m:=1) (ys:=yv [ch]) rfl hs (Yl _) (by omega) (by omega) ?_ ?_
 ·intro hf h' p2
  rw [<- T4] at p2
  exact ⟨_,_,_,rfl,x _ _ _ _ _ _ ⟨lgg,p2,rfl,fun _=>⟨rfl,rfl,rfl⟩,id⟩⟩
 ·intro hf A' c' h' g' lg p2
  rw [<- T4] at p2
  exact ⟨_,_,_,rfl,x _ _ _ _ _ _ ⟨B0 lgg lg,p2,rfl,fun e=>by simp at e;omega,fun _=>rfl⟩⟩
theorem A5i{i:Int}(h:i<0):Ky i=[45]++N6 i.natAbs:=by unfold Ky;rw [if_pos h];rfl
theorem Rd{i:Int}(h:¬ i<0):Ky i=N6 i.natAbs:=by unfold Ky;rw [if_neg h]
theorem A0q{b:Nat}{e:TypeId}{B:Option Addr}{pre post:List Value}{s:List UInt8}(w:Win .u8 h g b e B pre (zb s) post):SlV h B (yv s):=by
 have:=w.sl
 unfold SlI at this
 rw [C0j] at this
 exact this
theorem Vd{i:Int}(gp:Gp h)(h1: -9223372036854775808<=i)(h2:i<9223372036854775808)(hK:K (.string (bs (Ky i))) h):FCall prog Hq #[I i,I 10] h K:=by
 refine FCall.pure (A0j _ _ ?_)
 unfold Xn
 refine A09 _ _ ?_
 unfold Xd
 refine E5 (fun _=>?_) (fun e=>absurd rfl e)
 refine ⟨fun L hp=>L=[.bool (decide (0<=i/\i<100))]/\hp=h,B6 (fun h3=>⟨by simp [h3],rfl⟩) (fun h3=>⟨by simp [h3],rfl⟩),?_⟩
 rintro t17 hp ⟨hL,rfl⟩
 obtain rfl:t17=decide (0<=i/\i<100):=by simpa using hL
 refine B6 (fun h3=>?_) (fun h3=>?_)
 ·obtain ⟨k,rfl⟩:∃ k:Nat,i=k:=⟨i.toNat,by omega⟩
  refine Wb (by omega) ⟨_,rfl,⟨_,rfl,B4 _,?_⟩⟩
  rw [Rd (by omega)] at hK
  exact hK
 ·refine Fz A6m ?_
  intro b hb
  have hz:(Value.agg (C6p 24 (.int .u8 0))).cells=((C5h 24 (0:Int)).map (C63 .u8)).toArray:=by rfl
  rw [hz]
  have w0:Win .u8 (hp.put b (.cells ((C5h 24 (0:Int)).map (C63 .u8)).toArray Ru)) hp b Ru (some ⟨b,0,none⟩) [] (C5h 24 (0:Int)) []:=⟨hb,by simp,.inr rfl⟩
  generalize (hp.put b (.cells ((C5h 24 (0:Int)).map (C63 .u8)).toArray Ru))=hp1 at *
  refine ⟨_,rfl,?_⟩
  obtain ⟨u,hu⟩:∃ u:Nat,u=i.natAbs:=⟨_,rfl⟩
  have hu0:u≠0:=by omega
  have hd:N6 u=dd u:=Z1 hu0
  have hdl:(dd u).length<=20:=Q5.2 (by show u<10^20;omega)
  have e1:B5 (1+(((dd u).length:Nat):Int))=((1+(dd u).length:Nat):Int):=by rw [B7 (by omega) (by omega)];omega
  have w1:=w0.sub (l:=1) (m:=1+(dd u).length) (c:=24) (by omega) (by simp;omega) (by simp)
  have hw1:((C5h 24 (0:Int)).drop 1).take (1+(dd u).length-1)=C5h (dd u).length 0:=by
   rw [C6k,C6j,C5v (by omega)];congr 1;omega
  rw [hw1] at w1
  have hlt:u<10^(dd u).length:=Q5.1 (C6q _)
  have hpd:pad (dd u).length u=dd u:=by simp [pad]
  have hn1:1+(dd u).length-1=(dd u).length:=by omega
  refine B6 (fun hi=>?_) (fun hi=>?_)
  ·rw [A5i hi,<- hu,hd] at hK
   have e:C0 (0-C0 i)=(u:Int):=by rw [E9,E9];omega
   rw [e]
   refine Dg (gp.mono w0.le) hu0 (by omega) ⟨_,rfl,?_⟩
   rw [e1,C5i]
   refine ⟨⟨by omega,by omega⟩,⟨by omega,by omega⟩,?_⟩
   rw [show ((1:Int)).toNat=1 from rfl,hn1]
   refine W6 w1 (by simp) (by omega) hlt (by omega) ?_
   intro hp2 w2
   rw [hpd] at w2
   refine ⟨rfl,B6 (fun _=>?_) (fun h4=>absurd hi h4)⟩
   have w3:=w0.whole (l:=1) (m:=1+(dd u).length) (by omega) (by simp;omega) (by rw [Gq];omega) w2
   refine ⟨⟨by omega,by omega⟩,?_⟩
   rw [show ((0:Int)).toNat=0 from rfl]
   refine w3.storeN Kt rfl (by simp) ?_
   intro hp4 w4
   refine ⟨⟨by omega,by omega⟩,?_⟩
   have w5:=w4.sub (l:=0) (m:=1+(dd u).length) (c:=24) (by omega) (by simp [Gq];omega) (by simp [Gq];omega)
   have e5:((((C5h 24 (0:Int)).take 1++zb (dd u)++(C5h 24 (0:Int)).drop (1+(dd u).length)).set 0 45).drop 0).take (1+(dd u).length-0)=zb ([45]++dd u):=by
    rw [C73,C6j,show min 1 24=1 from rfl,show C5h 1 (0:Int)=[0] from rfl,C5u,List.singleton_append,List.set_cons_zero,C6l,Nat.add_comm 1,List.take_succ_cons,C7g (Gq _)]
    rfl
   rw [e5] at w5
   refine La Ge.und Do V3 (A0q w5) (by simp;omega) ⟨_,rfl,_,rfl,?_,hK⟩
   exact w4.le
  ·rw [Rd hi,<- hu,hd] at hK
   have e:C0 i=(u:Int):=by rw [E9];omega
   rw [e]
   refine Dg (gp.mono w0.le) hu0 (by omega) ⟨_,rfl,?_⟩
   rw [e1,C5i]
   refine ⟨⟨by omega,by omega⟩,⟨by omega,by omega⟩,?_⟩
   rw [show ((1:Int)).toNat=1 from rfl,hn1]
   refine W6 w1 (by simp) (by omega) hlt (by omega) ?_
   intro hp2 w2
   rw [hpd] at w2
   refine ⟨rfl,B6 (fun h4=>absurd h4 hi) (fun _=>?_)⟩
   refine ⟨⟨by omega,by omega⟩,⟨by omega,by omega⟩,?_⟩
   exact La Ge.und Do V3 (A0q w2) rfl ⟨_,rfl,_,rfl,w2.le,hK⟩
theorem Vg{s q:List UInt8}(hK:K (.tuple #[.string (bs (if q <+: s then s.drop q.length else s)),.bool (decide (q <+: s))]) h):FCall prog Hr #[.string (bs s),.string (bs q)] h K:=by
 refine A0k _ _ ?_
 unfold Xo
 refine A0a _ _ ?_
 unfold Xe
 have hp:FCall prog Hj #[.string (bs s),.string (bs q)] h (fun r hp=>r= .bool (decide (q <+: s))/\hp=h):=by
  refine A08 _ _ ?_
  unfold Xc
  simp only [J4]
  refine B6 (fun h1=>?_) (fun h1=>?_)
  ·refine ⟨⟨by omega,by omega⟩,?_,trivial⟩
   rw [C5i,N4,Nk]
   congr 1
   rw [decide_eq_decide,C73,C6l,List.prefix_iff_eq_take]
   exact eq_comm
  ·refine ⟨?_,trivial⟩
   congr 1
   symm
   rw [decide_eq_false_iff_not]
   intro hq
   have:=hq.length_le
   omega
 refine hp.mono ?_
 rintro r hp2 ⟨rfl,rfl⟩
 refine ⟨_,rfl,Br.not (B6 (fun h1=>?_) (fun h1=>?_))⟩
 ·rw [if_pos h1,decide_eq_true h1] at hK
  have:=h1.length_le
  simp only [J4]
  refine ⟨⟨by omega,by omega⟩,_,_,rfl,?_⟩
  rw [C5i,N4,C5m (by rw [C5x];omega)]
  exact hK
 ·rw [if_neg h1,decide_eq_false h1] at hK
  exact ⟨_,_,rfl,hK⟩
end
abbrev cB:Int:=10000000000000000000
section
variable {h g:Heap} {K:VP} {A B:Option Addr} {ac bc:Nat}
theorem C1v{Invv:LP}{muv:LN}{WA CA:Option Addr}{wn wc cn cc:Nat}{us:List Int}{hp1 g1:Heap}(p:Pw hp1 g1 WA wn wc us)(hne:us≠[])(hwn:wn=us.length)(du:Dig b64 us)(hl:wn<=100000000)
 (hK:∀ (ws:List Int) (m:Nat) (r:Int) (hp2:Heap),Pw hp2 g1 WA m wc (ws.take m)->m=(ws.take m).length->m<=wn->Norm (ws.take m)->Dig b64 (ws.take m)->val b64 us=val b64 (ws.take m)*cB+r->(0<=r/\r<cB)->
  wpH prog (Instr.buildSlice Y3 1 #[(0,U r)]) (fun v hp6=>∃ (t44A:Option Addr) (t44n:Nat) (t44c:Nat),v= .slice t44A t44n t44c/\wpH prog (C6o #[Y3,Y3] Y3 #[.slice CA cn cc,.slice t44A t44n t44c]) (fun v1 hp7=>∃ (t45A:Option Addr) (t45n:Nat) (t45c:Nat),v1= .slice t45A t45n t45c/\Invv [.slice WA m wc,.slice t45A t45n t45c] hp7/\muv [.slice WA m wc,.slice t45A t45n t45c] hp7<muv [.slice WA wn wc,.slice CA cn cc] hp1) hp6) hp2):
 Cn prog Invv muv WA wn wc CA cn cc hp1:=by
 obtain ⟨b,post,w0,hc⟩:=Eo p hne
 unfold Cn
 refine ⟨fun s hp=>∃ (k:Nat) (r:Int) (ws:List Int),s=[U r,I ((k:Int)-1)]/\k<=wn/\(0<=r/\r<cB)/\ws.length=us.length/\Dig b64 ws/\Win .u64 hp g1 b C1 WA [] ws post/\ws.take k=us.take k/\val b64 (us.drop k)=val b64 (ws.drop k)*cB+r,fun s _=>(iAt s 1+1).toNat,⟨wn,0,us,by rw [B7 (by omega) (by omega)],by omega,by decide,rfl,du,w0,rfl,by rw [C5w (by omega)];simp [val]⟩,?_⟩
 rintro rest i hp2 ⟨k,r,ws,hs,hk,hr,hwl,dw,w,htk,hv⟩
 obtain ⟨rfl,rfl⟩:rest=r/\i=(k:Int)-1:=by simpa using hs
 refine B6 (fun h1=>?_) (fun h1=>?_)
 ·obtain ⟨j,rfl⟩:∃ j,k=j+1:=⟨k-1,by omega⟩
  have e:((j+1:Nat):Int)-1=(j:Int):=by omega
  rw [e]
  have gx:=N3 dw j
  refine w.sl.load (by omega) (by omega) (by omega) ?_
  rw [C5i]
  refine Ro (y:=10000000000000000000) hr gx (by decide) ⟨_,_,rfl,?_⟩
  have hu:us.getD j 0=ws.getD j 0:=by
   have h3:(ws.take (j+1)).getD j 0=(us.take (j+1)).getD j 0:=by rw [htk]
   simpa [C7s,List.getElem?_take] using h3.symm
  generalize hx:ws.getD j 0=x at *
  have hr':0<=rest/\rest<10000000000000000000:=hr
  have hT:0<=rest*18446744073709551616+x:=by omega
  have hq:0<=(rest*18446744073709551616+x)/10000000000000000000/\(rest*18446744073709551616+x)/10000000000000000000<18446744073709551616:=by omega
  obtain ⟨a,ha,_⟩:=SlV.at w.sl (i:=j) (by simp;omega)
  refine ⟨a,ha,by omega,by omega,w.storeN F7 ha (by omega) ?_⟩
  intro h4 w4
  rw [B7 (by omega) (by omega)]
  refine ⟨⟨j,_,_,rfl,by omega,by show _/\_<(10000000000000000000:Int);omega,by simpa using hwl,dw.set hq,w4,?_,?_⟩,by simp only [iAt,C5o,C5p];omega⟩
  ·rw [List.take_set_of_le (by omega)]
   have h3:=congrArg (List.take j) htk
   rw [List.take_take,List.take_take,C5v (by omega)] at h3
   exact h3
  ·rw [U6 (by omega),Ks b64 (by omega),hv,hu]
   have:=C5s (rest*18446744073709551616+x) 10000000000000000000
   simp only [val]
   generalize (rest*18446744073709551616+x)/10000000000000000000=q at *
   generalize (rest*18446744073709551616+x)%10000000000000000000=s at *
   grind
 ·obtain rfl:k=0:=by omega
  rw [C73,C73] at hv
  rw [show wn=ws.length by omega] at hK ⊢
  refine Dm w.sl (by omega) (by omega) ?_
  intro m hm hN hve
  refine ⟨_,_,_,rfl,?_⟩
  have hne2:ws≠[]:=by intro e0;apply hne;exact C5k (by rw [<- hwl,e0];rfl)
  exact hK ws m rest hp2 (w.priv hne2 (by omega) hm) (by rw [C5q];omega) hm hN (dw.take m) (by rw [hve];exact hv) hr
end
def nv:List Nat->Nat
 | []=>0
 | c::r=>c+10^19*nv r
theorem B0e(ns:List Nat)(c:Nat):((nv (ns++[c]):Nat):Int)=(nv ns:Int)+cB^ns.length*(c:Int):=by
 induction ns with
 | nil=>simp [nv]
 | cons d r ih=>
  have e:((10^19:Nat):Int)=cB:=by decide
  simp only [List.cons_append,nv,List.length_cons,C65,C7l,C66,ih,e]
  grind
theorem C3i{ns:List Nat}(h:∀ c∈ns,c<10^19):nv ns<10^(19*ns.length):=by
 induction ns with
 | nil=>simp [nv]
 | cons d r ih=>
  have h1:=h d (by simp)
  have h2:=ih fun c hc=>h c (by simp [hc])
  simp only [nv,List.length_cons]
  rw [show 19*(r.length+1)=19+19*r.length by omega,C7p]
  have:=Nat.mul_le_mul_left (10^19) (show nv r+1<=10^(19*r.length) by omega)
  rw [Nat.mul_add] at this;omega
theorem C3h{ns:List Nat}(hne:ns≠[])(h:ns.getLast? ≠ some 0):nv ns≠0:=by
 induction ns with
 | nil=>exact absurd rfl hne
 | cons d r ih=>
  cases r with
  | nil=>simp at h;simp [nv];exact h
  | cons e s=>
   have:=ih (by simp) (by simpa [List.getLast?_cons_cons] using h)
   simp only [nv] at this ⊢
   have h3:0<10^19*(e+10^19*nv s):=Nat.mul_pos (by decide) (by omega)
   omega
theorem B4n{c:Nat}:C5h (19-(N6 c).length) 48++N6 c=pad 19 c:=by
 unfold N6 pad
 split
 ·rename_i h;subst h;rw [J9];rfl
 ·rfl
theorem B08{c w:Nat}(h:c≠0):C5h (w-(N6 c).length) 48++N6 c=pad w c:=by
 unfold N6 pad;rw [if_neg h]
theorem A7m{w n k:Nat}(h:n<10^k):(pad w n).length<=w+k:=by
 unfold pad
 have:=Q5.2 h
 rw [C5j,C64];omega
def A8t(W:Nat)(ns:List Nat)(k:Nat):List UInt8:=if k<ns.length then pad (W-19*k) (nv (ns.drop k)) else []
theorem B3z{W:Nat}{ns:List Nat}(h:∀ c∈ns,c<10^19)(k:Nat):(A8t W ns k).length<=W+19*ns.length:=by
 unfold A8t
 split
 ·have:=A7m (w:=W-19*k) (C3i (ns:=ns.drop k) fun c hc=>h c (List.mem_of_mem_drop hc))
  rw [C5x] at this;omega
 ·simp
theorem A9a{W:Nat}{ns:List Nat}(hb:∀ c∈ns,c<10^19)(ht:ns.getLast? ≠ some 0){j:Nat}(hj:j<ns.length):A8t W ns j=A8t W ns (j+1)++(C5h ((if j+1=ns.length then max (N6 ns[j]).length (W-19*j) else 19)-(N6 ns[j]).length) 48++N6 ns[j]):=by
 have e:ns.drop j=ns[j]::ns.drop (j+1):=C74 hj
 unfold A8t
 rw [if_pos hj,e]
 by_cases h:j+1=ns.length
 ·rw [if_neg (by omega),if_pos h,C6w,C5w (by omega)]
  have hc:ns[j]≠0:=by
   intro h0
   apply ht
   rw [C84,<- h,Nat.add_sub_cancel,List.getElem?_eq_getElem hj,h0]
  rw [show max (N6 ns[j]).length (W-19*j)-(N6 ns[j]).length=(W-19*j)-(N6 ns[j]).length by omega,B08 hc]
  simp [nv]
 ·rw [if_pos (by omega),if_neg h,B4n]
  have hn:nv (ns.drop (j+1))≠0:=by
   apply C3h
   ·intro e0;have:=congrArg List.length e0;rw [C5x] at this;simp at this;omega
   ·rw [List.getLast?_drop,if_neg (by omega)];exact ht
  have:=A1m (w:=W-19*j) (h:=nv (ns.drop (j+1))) (l:=ns[j]) (k:=19) (hb _ (C7x hj)) (.inl hn)
  rw [Nat.sub_sub] at this
  rw [show 19*(j+1)=19*j+19 by omega,<- this]
  congr 1
  simp only [nv];rw [C7d];omega
theorem Priv.clear{h g:Heap}{e:TypeId}{A:Option Addr}{n c:Nat}{xs:List Value}(p:Priv h g e 1 A n c xs):Priv h g e 1 A 0 c []:=by
 obtain ⟨h1,h2,h3⟩:=p
 refine ⟨by simp,by omega,?_⟩
 rcases h3 with h3|⟨b,arr,a1,a2,a3,a4,a5⟩
 ·exact .inl h3
 ·exact .inr ⟨b,arr,a1,a2,a3,a4,by simp⟩
def nz(ns:List Nat):List Int:=ns.map fun (x:Nat)=>(x:Int)
def Bx(g:Heap)(eT:TypeId)(A:Option Addr)(n c:Nat)(l:List UInt8)(p:Addr)(CA:Option Addr)(ns:List Nat)(bl t:List UInt8)(tA:Option Addr)(tn tc:Nat)(hp:Heap):Prop:=
 ∃ e2 gA gB,Ext g eT A n c l t tA tn tc e2 gA hp/\Priv gA gB A95 1 (some p) bl.length 20 (yv bl)/\g.le gB/\SlI .u64 gB CA (nz ns)
section
variable {h g:Heap} {K:VP} {A CA:Option Addr} {n c:Nat} {eT:TypeId} {l:List UInt8} {p:Addr} {ns:List Nat}
theorem A5b{bl t s:List UInt8}{tA tA':Option Addr}{tn tc tn' tc':Nat}{e2 e3:TypeId}{gA gB g' hp hp':Heap}(x:Ext g eT A n c l t tA tn tc e2 gA hp)(q:Priv gA gB A95 1 (some p) bl.length 20 (yv bl))(lg:g.le gB)(sc:SlI .u64 gB CA (nz ns))(y:Ext gA e2 tA tn tc (l++t) s tA' tn' tc' e3 g' hp'):Bx g eT A n c l p CA ns bl (t++s) tA' tn' tc' hp':=by
 obtain ⟨gB',l1,q'⟩:=q.after y.le
 exact ⟨e3,g',gB',x.trans y,q',B0 lg l1,sc.mono l1⟩
theorem B5g{Invv2:LP}{muv2:LN}{tA:Option Addr}{tn tc q:Nat}{first:Bool}{i1 size:Int}{bl t:List UInt8}{hp9 hp11:Heap}(x:Bx g eT A n c l p CA ns bl t tA tn tc hp11)(hq:B5 (size-((bl.length:Nat):Int))=(q:Int))(hb:n+t.length+q+bl.length<=100000000000)
 (hK:∀ tA' tn' tc' hp',Bx g eT A n c l p CA ns bl (t++(C5h q 48++bl)) tA' tn' tc' hp'->Invv2 [.slice tA' tn' tc',.bool false,I (B5 (i1-1))] hp'/\muv2 [.slice tA' tn' tc',.bool false,I (B5 (i1-1))] hp'<muv2 [.slice tA tn tc,.bool first,I i1] hp9):
 Ax prog Invv2 muv2 tA tn tc first i1 (some p) bl.length 20 size hp9 hp11:=by
 unfold Ax
 rw [hq]
 refine ⟨fun s hp=>∃ (k:Nat) (tA:Option Addr) (tn tc:Nat),s=[.slice tA tn tc,I k]/\k<=q/\Bx g eT A n c l p CA ns bl (t++C5h k 48) tA tn tc hp,fun s _=>q-(iAt s 1).toNat,⟨0,tA,tn,tc,rfl,by omega,by simpa using x⟩,?_⟩
 rintro tA1 tn1 tc1 t71 hp12 ⟨k,tA2,tn2,tc2,hs,hk,e2,gA,gB,ex,pb,lg,sc⟩
 simp only [C5t,C5y,C62,and_true,true_and] at hs
 obtain ⟨⟨rfl,rfl,rfl⟩,rfl⟩:=hs
 have hlen:=ex.len
 rw [C5j,C64] at hlen
 refine B6 (fun h1=>?_) (fun h1=>?_)
 ·refine Ln (ch:=48) rfl ex.priv (by omega) ?_
  intro A' n' c' e3 g' h' y
  rw [B7 (by omega) (by omega)]
  refine ⟨⟨k+1,_,_,_,rfl,by omega,?_⟩,by simp only [iAt,C5o,C5p];omega⟩
  have:=A5b ex pb lg sc y
  rwa [C5u,<- C6t] at this
 ·obtain rfl:k=q:=by omega
  refine ⟨fun s hp=>∃ (tA:Option Addr) (tn tc:Nat),s=[.slice tA tn tc]/\Bx g eT A n c l p CA ns bl (t++(C5h k 48++bl)) tA tn tc hp,?_,?_⟩
  ·refine Tz Ge ex.priv (Gs bl) (SlV.mono ex.priv.le pb.slV) (Yl _) (by omega) (by omega) ?_ ?_
   ·intro hf h' p'
    rw [<- T4] at p'
    refine ⟨_,_,_,rfl,_,_,_,rfl,?_⟩
    have:=A5b ex pb lg sc (s:=bl) ⟨B4 _,p',rfl,fun _=>⟨rfl,rfl,rfl⟩,id⟩
    rwa [C5u] at this
   ·intro hf A' c' h' g' lg' p'
    rw [<- T4] at p'
    refine ⟨_,_,_,rfl,_,_,_,rfl,?_⟩
    have:=A5b ex pb lg sc (s:=bl) ⟨lg',p',rfl,fun e=>by omega,fun _=>rfl⟩
    rwa [C5u] at this
  ·rintro tA3 tn3 tc3 hp16 ⟨tA4,tn4,tc4,hs,x4⟩
   simp only [C5t,C5y,and_true] at hs
   obtain ⟨rfl,rfl,rfl⟩:=hs
   exact hK _ _ _ _ x4
theorem B5e{W tn tc:Nat}{tA:Option Addr}{t:List UInt8}{e2:TypeId}{gA hp9:Heap}(x:Ext g eT A n c l t tA tn tc e2 gA hp9)(hW:W<=10000000000)(hb:tn<=10000000000)(hK:∀ A' n' c' e3 g' h',Ext g eT A n c l (t++C5h W 48) A' n' c' e3 g' h'->K (.slice A' n' c') h'):Aw prog (W:Int) K tA tn tc hp9:=by
 unfold Aw
 refine ⟨fun s hp=>∃ (k:Nat) (tA:Option Addr) (tn' tc:Nat) (e3:TypeId) (g':Heap),s=[.slice tA tn' tc,I k]/\k<=W/\tn'=tn+k/\Ext g eT A n c l (t++C5h k 48) tA tn' tc e3 g' hp,fun s _=>W-(iAt s 1).toNat,⟨0,tA,tn,tc,e2,gA,rfl,by omega,rfl,by simpa using x⟩,?_⟩
 rintro tA1 tn1 tc1 t82 hp17 ⟨k,tA2,tn2,tc2,e3,g',hs,hk,htn,ex⟩
 simp only [C5t,C5y,C62,and_true,true_and] at hs
 obtain ⟨⟨rfl,rfl,rfl⟩,rfl⟩:=hs
 refine B6 (fun h1=>?_) (fun h1=>?_)
 ·refine Ln (ch:=48) rfl ex.priv (by omega) ?_
  intro A' n' c' e4 g2 h' y
  rw [B7 (by omega) (by omega)]
  refine ⟨⟨k+1,_,_,_,e4,g2,rfl,by omega,?_,?_⟩,by simp only [iAt,C5o,C5p];omega⟩
  ·have:=y.len;simp at this;omega
  ·have:=ex.trans y
   rwa [C5u,<- C6t] at this
 ·obtain rfl:k=W:=by omega
  exact hK _ _ _ _ _ _ ex
theorem B5f{W cn:Nat}{tA:Option Addr}{tn tc:Nat}{hp8:Heap}{b:Nat}(gp:Gp g)(hp:p=⟨b,0,none⟩)(x:Bx g eT A n c l p CA ns [] [] tA tn tc hp8)(hcn:cn=ns.length)(hb:∀ c∈ns,c<10^19)(ht:ns.getLast? ≠ some 0)(hW:W<=1000000000)(hn:n<=1000000000)(hnl:ns.length<=1000000000)
 (hK:∀ A' n' c' e3 g' h',Ext g eT A n c l (pad W (nv ns)) A' n' c' e3 g' h'->K (.slice A' n' c') h'):Ay prog tA tn tc (W:Int) K CA cn p hp8:=by
 subst hcn
 have hcut:L0 (some p) 20 0 1=some p:=by rw [hp];rfl
 unfold Ay
 refine ⟨fun s hp=>∃ (k:Nat) (tA:Option Addr) (tn tc:Nat) (bl:List UInt8),s=[.slice tA tn tc,.bool (decide (k=ns.length)),I ((k:Int)-1)]/\k<=ns.length/\Bx g eT A n c l p CA ns bl (A8t W ns k) tA tn tc hp,fun s _=>(iAt s 2+1).toNat,⟨ns.length,tA,tn,tc,[],by rw [B7 (by omega) (by omega)];simp,C6q _,by unfold A8t;rw [if_neg (by omega)];exact x⟩,?_⟩
 rintro tA1 tn1 tc1 first i1 hp9 ⟨k,tA2,tn2,tc2,bl,hs,hk,e2,gA,gB,ex,pb,lg,sc⟩
 simp only [C5t,C5y,C62,Value.bool.injEq,and_true,true_and] at hs
 obtain ⟨⟨rfl,rfl,rfl⟩,rfl,rfl⟩:=hs
 have hlen:=ex.len
 have htl:=B3z (W:=W) hb k
 refine B6 (fun h1=>?_) (fun h1=>?_)
 ·obtain ⟨j,rfl⟩:∃ j,k=j+1:=⟨k-1,by omega⟩
  have e:((j+1:Nat):Int)-1=(j:Int):=by omega
  rw [e]
  have hj:j<ns.length:=by omega
  refine ⟨⟨by omega,by omega⟩,?_⟩
  refine (sc.mono (B0 pb.le ex.priv.le)).load (by simp [nz]) (by omega) (by simp;omega) ?_
  have hz:(nz ns).getD (j:Int).toNat 0=((ns[j]:Nat):Int):=by
   rw [C5i];simp [nz,C7s,hj]
  rw [hz,hcut,show ((0:Int)).toNat-0=0 from rfl,show 20-0=20 from rfl]
  have hc19:=hb ns[j] (C7x hj)
  have hdl:(N6 ns[j]).length<=20:=(Rp (by decide)).2 (C6z hc19 (by decide))
  refine ex.priv.call ?_
  refine Gg (l:=[]) (gp.mono (B0 lg pb.le)) pb.clear (C6z hc19 (by decide)) (by omega) ?_
  intro A' n' c' e3 g' h0 y h' pt
  obtain ⟨rfl,rfl,rfl⟩:=y.fit (by omega)
  have yl:=y.len
  rw [C7c] at yl
  subst yl
  refine ⟨_,_,_,rfl,?_⟩
  have x2:Bx g eT A n c l p CA ns (N6 ns[j]) (A8t W ns (j+1)) tA1 tn1 tc1 h':=
   ⟨e2,h0,g',⟨B0 lg (B0 y.le y.priv.le),pt,ex.len,ex.fit,ex.tag⟩,by simpa using y.priv,B0 lg y.le,sc.mono y.le⟩
  refine ⟨fun s hp=>s=[I (((if j+1=ns.length then max (N6 ns[j]).length (W-19*j) else 19):Nat):Int)]/\hp=h',B6 (fun hf=>⟨?_,rfl⟩) (fun hf=>⟨by rw [if_neg hf];rfl,rfl⟩),?_⟩
  ·rw [if_pos hf,B7 (n:=19*(j:Int)) (by omega) (by omega),B7 (by omega) (by omega)]
   simp only [C5t,C62,and_true,true_and]
   by_cases hc:(W:Int)-19*(j:Int)>(((N6 ns[j]).length:Nat):Int)
   ·rw [if_pos hc];omega
   ·rw [if_neg hc];omega
  ·rintro size hp11 ⟨hs2,rfl⟩
   obtain rfl:size=(((if j+1=ns.length then max (N6 ns[j]).length (W-19*j) else 19):Nat):Int):=by simpa using hs2
   have hd19:(N6 ns[j]).length<=19:=(Rp (by decide)).2 hc19
   generalize hsz:(if j+1=ns.length then max (N6 ns[j]).length (W-19*j) else 19)=sz at *
   have hsz2:(N6 ns[j]).length<=sz/\sz<=W+20:=by
    rw [<- hsz];split<;>omega
   refine B5g (q:=sz-(N6 ns[j]).length) x2 (by rw [B7 (by omega) (by omega)];omega) (by have:=ex.len;omega) ?_
   intro tA' tn' tc' hp' x3
   rw [B7 (by omega) (by omega)]
   refine ⟨⟨j,tA',tn',tc',N6 ns[j],?_,by omega,?_⟩,by simp only [iAt,C5o,C5p];omega⟩
   ·rw [show decide (j=ns.length)=false by simp;omega]
   ·rw [A9a hb ht hj,hsz];exact x3
 ·obtain rfl:k=0:=by omega
  refine B6 (fun hf=>?_) (fun hf=>?_)
  ·have hns:ns=[]:=C5k hf.symm
   subst hns
   refine B5e ex (by omega) (by omega) ?_
   intro A' n' c' e3 g' h' y
   refine hK _ _ _ e3 g' _ ?_
   have:A8t W [] 0++C5h W 48=pad W (nv []):=by simp [A8t,nv,pad,J9]
   rwa [this] at y
  ·refine hK _ _ _ e2 gA _ ?_
   ·have:A8t W ns 0=pad W (nv ns):=by unfold A8t;rw [if_pos (by omega)];simp
    rw [<- this];exact ex
end
theorem B5j:(prog.info? A95).map (fun i=>i.zero)=some (some (.agg (C6p 20 (.int .u8 0)))):=by kernel_rfl
theorem B8l(ns:List Nat)(c:Nat):nz (ns++[c])=nz ns++[(c:Int)]:=by simp [nz]
section
variable {h g:Heap} {K:VP} {A XA:Option Addr} {n c:Nat} {eT:TypeId} {l:List UInt8}
theorem Ei{xn xc v W:Nat}(gp:Gp g)(p:Priv h g eT 1 A n c (yv l))(M:Mw g XA xn (v:Int))(hx:xn<=10000000)(hW:W<=1000000000)(hn:n<=1000000000)
 (hK:∀ A' n' c' e3 g' h',Ext g eT A n c l (pad W v) A' n' c' e3 g' h'->K (.slice A' n' c') h'):FCall prog U3 #[.slice A n c,.slice XA xn xc,I (W:Int)] h K:=by
 obtain ⟨xs,hxl,sx,dx,nx,hxv⟩:=M
 refine Rb _ _ _ _ _ _ _ ?_
 unfold Nw
 refine p.call ?_
 refine Ef sx hxl (by omega) ?_
 intro WA wc h0 g0 l0 pw h1 pt
 obtain ⟨g1,pw1,pt1⟩:=pt.swap pw
 refine ⟨_,_,_,rfl,?_⟩
 unfold Ie
 have hvlt:(v:Int)<2^(64*xn):=by
  have:=L5 (B:=b64) (by decide) dx
  rw [hxv,<- hxl,Ju] at this;exact this
 refine ⟨fun s hp=>∃ (us:List Int) (ns:List Nat) (WA CA:Option Addr) (wn wc cn cc:Nat) (g1 g2 g3:Heap),s=[.slice WA wn wc,.slice CA cn cc]/\Pw hp g1 WA wn wc us/\Pw g1 g2 CA cn cc (nz ns)/\Priv g2 g3 eT 1 A n c (yv l)/\g.le g3/\wn=us.length/\cn=ns.length/\wn<=xn/\Dig b64 us/\Norm us/\(∀ c∈ns,c<10^19)/\(v:Int)=val b64 us*cB^ns.length+(nv ns:Int)/\(us=[]->ns.getLast? ≠ some 0),fun s hp=>match s with|[.slice A n _,_]=>B0i b64 hp A n|_=>0,⟨xs,[],WA,none,xs.length,wc,0,0,g1,g1,g0,rfl,pw1,Priv.nil _ _ _ _,pt1,l0,rfl,rfl,by omega,dx,nx,by simp,by simp [nv,hxv],by simp⟩,?_⟩
 rintro WA1 wn1 wc1 CA1 cn1 cc1 hp1 ⟨us,ns,WA2,CA2,wn2,wc2,cn2,cc2,g1,g2,g3,hs,pw,pc,pt,lg,hwn,hcn,hwx,du,nu,hb,hv,htop⟩
 simp only [C5t,C5y,and_true] at hs
 obtain ⟨⟨rfl,rfl,rfl⟩,rfl,rfl,rfl⟩:=hs
 have hu0:=C8 (B:=b64) (by decide) du
 have Mu:Mw hp1 WA1 wn1 (val b64 us):=⟨us,hwn,pw.slV,du,nu,rfl⟩
 refine B6 (fun h2=>?_) (fun h2=>?_)
 ·have hne:us≠[]:=by rintro rfl;simp at hwn;omega
  have hpos:0<val b64 us:=by
   have:=Mu.len_zero (by decide)
   omega
  have hcnb:ns.length<=64*xn:=by
   by_cases hc:ns.length<=64*xn
   ·exact hc
   ·exfalso
    have h3:(2:Int)^(64*xn)<=2^ns.length:=D3 (by decide) (by omega)
    have h4:(2:Int)^ns.length<=cB^ns.length:=by
     have:∀ k:Nat,(2:Int)^k<=cB^k:=by
      intro k
      induction k with
      | zero=>simp
      | succ k ih=>
       rw [C65,C65]
       exact Int.mul_le_mul ih (by decide) (by decide) (C60 (C6f (by decide)))
     exact this _
    have h5:1*cB^ns.length<=val b64 us*cB^ns.length:=C5n hpos (C60 (C6f (by decide)))
    omega
  refine C1v pw hne hwn du (by omega) ?_
  intro ws m r hp2 pw2 hm hmw nw dw hval hr
  obtain ⟨g1',pc',pw'⟩:=pw2.swap pc
  refine De P7 pc' rfl rfl (by omega) (by omega) ?_
  intro CA' cc' h' g' lg' pc2
  obtain ⟨g2',l2,pw3⟩:=pw'.after lg'
  obtain ⟨g4,pw4,pc4⟩:=pc2.swap pw3
  obtain ⟨g5,l5,pt5⟩:=pt.after l2
  obtain ⟨c0,hc0⟩:∃ c0:Nat,r=(c0:Int):=⟨r.toNat,by omega⟩
  have hc19:c0<10^19:=by
   have h6:r<10000000000000000000:=hr.2
   show c0<10000000000000000000
   omega
  have hw0:=C8 (B:=b64) (by decide) dw
  refine ⟨⟨ws.take m,ns++[c0],WA1,CA',m,wc1,cn1+1,cc',g4,g2',g5,rfl,pw4,?_,pt5,B0 lg l5,hm,by simp;omega,by omega,dw,nw,?_,?_,?_⟩,?_⟩
  ·have h9:=pc4
   rw [<- C7r (f:=C63 .u64),<- C7i,hc0,<- B8l] at h9
   exact h9
  ·intro c hc
   rcases List.mem_append.1 hc with h6|h6
   ·exact hb c h6
   ·rw [List.mem_singleton.1 h6];exact hc19
  ·rw [B0e,hv,hval,C5j,List.length_singleton,C65,hc0];grind
  ·intro he
   rw [List.getLast?_append]
   simp only [List.getLast?_singleton,Option.some_or,ne_eq,C7v]
   intro e0
   rw [he] at hval
   simp [val] at hval
   omega
  ·show B0i b64 h' WA1 m<B0i b64 hp1 WA1 wn1
   have Mw2:Mw h' WA1 m (val b64 (ws.take m)):=⟨ws.take m,hm,pw4.slV,dw,nw,rfl⟩
   rw [Ak Mw2,Ak Mu]
   have h6:1*val b64 (ws.take m)<=cB*val b64 (ws.take m):=C5n (by decide) hw0
   have h7:val b64 us=10000000000000000000*val b64 (ws.take m)+r:=by rw [hval,C5z]
   omega
 ·have hnil:us=[]:=C5k (by omega)
  subst hnil
  obtain ⟨g2',pt2,pc2⟩:=pc.swap pt
  obtain ⟨g1',pt3,pw3⟩:=pw.swap pt2
  have hvn:v=nv ns:=by
   simp [val] at hv;omega
  have hcnb:ns.length<=1000000000:=by
   by_cases hc0:ns=[]
   ·subst hc0;simp
   ·have h7:=htop rfl
    obtain ⟨ms,c0,rfl⟩:∃ ms c0,ns=ms++[c0]:=⟨ns.dropLast,ns.getLast hc0,(List.dropLast_concat_getLast hc0).symm⟩
    rw [List.getLast?_append] at h7
    simp only [List.getLast?_singleton,Option.some_or,ne_eq,C7v] at h7
    have h8:=B0e ms c0
    by_cases hc:ms.length<=64*xn
    ·simp;omega
    ·exfalso
     have h3:(2:Int)^(64*xn)<=2^ms.length:=D3 (by decide) (by omega)
     have h4:(2:Int)^ms.length<=cB^ms.length:=by
      have:∀ k:Nat,(2:Int)^k<=cB^k:=by
       intro k
       induction k with
       | zero=>simp
       | succ k ih=>
        rw [C65,C65]
        exact Int.mul_le_mul ih (by decide) (by decide) (C60 (C6f (by decide)))
      exact this _
     have h5:cB^ms.length*1<=cB^ms.length*(c0:Int):=C5l (by omega) (C60 (C6f (by decide)))
     omega
  refine Fz B5j ?_
  intro b hb0
  refine ⟨_,rfl,?_⟩
  have hz:(Value.agg (C6p 20 (.int .u8 0))).cells=(C5h 20 (C63 .u8 0)).toArray:=by rfl
  rw [hz]
  have hg1:g1' b=none:=by
   cases hx1:g1' b with
   | none=>rfl
   | some o=>rw [pt3.le b o hx1] at hb0;cases hb0
  refine B5f (ns:=ns) gp rfl ⟨eT,_,g1',⟨?_,?_,by simp,fun _=>⟨rfl,rfl,rfl⟩,id⟩,⟨by simp [yv],by simp,.inr ⟨b,C5h 20 (C63 .u8 0),rfl,hg1,rfl,by simp,by simp [yv]⟩⟩,?_,?_⟩ hcn hb (htop rfl) hW hn hcnb (by rw [<- hvn];exact hK)
  ·exact B0 lg (B0 pc2.le (B0 pw3.le (Heap.le_put _ hg1)))
  ·rw [C69];exact pt3.put hb0 _
  ·exact B0 lg (B0 pc2.le pw3.le)
  ·exact (show SlI .u64 g2' CA1 (nz ns) from pc2.slV).mono pw3.le
end
end Go.Proofs.YtajkakhfcokljaaGreatDoor
