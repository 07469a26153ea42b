/- A part. -/
import Derived.Test.YtdphgbjaijlckaaGreatDoorG24
import Derived.Deep.Strs
open Go.Proofs.Tryz
set_option linter.all false
open _root_.Go.Builtin renaming zeroCells->aI
open _root_.ByteArray renaming toList->aJ
open List renaming getElem?_map->aE,range->aF,mem_append_right->aO,getElem?_eq_none->aP,getElem?_range->aR,length_range->aV,length_map->aX
open List.cons renaming injEq->aM
open Nat renaming mul_le_mul_right->aC,mul_le_mul->aD,zero_le->aG,zero_mul->aK
open Option renaming map_some->aW
open Option.some renaming injEq->aU
open _root_.Go.Value renaming string->aZ
open _root_.Go.Value.int renaming injEq->aL
open _root_.Go.Value.slice renaming injEq->aS
open _root_.Go renaming TypeId->aH,Program->aN,Addr->bB
open _root_.Go.Proofs.YtdphgbjaijlckaaGreatDoor renaming FCall->aQ,RowV->aT,memOf->aY
namespace Go.Proofs.YtdphgbjaijlckaaGreatDoor
set_option maxRecDepth 20000
open Go
def RowsS(h:Heap)(A:Option bB)(n:Nat)(wl:Nat->Nat)(f:Nat->Nat->List UInt8):Prop:=∃ hd:List HV,SlF h A hd/\hd.length=n/\∀ i,i<n->∃ s,hd[i]? = some s/\s.n=wl i/\aT SSr h s.A (wl i) (f i)
def RowsS.mono{h h':Heap}{A:Option bB}{n:Nat}{wl:Nat->Nat}{f:Nat->Nat->List UInt8}(l:h.le h')(r:RowsS h A n wl f):RowsS h' A n wl f:=by
 obtain ⟨a,s,e,r⟩:=r
 refine ⟨a,s.mono l,e,fun i c=>?_⟩
 obtain ⟨s,d,b,r⟩:=r i c
 exact ⟨s,d,b,r.mono R2 l⟩
def RowsS.at{h:Heap}{A:Option bB}{n:Nat}{wl:Nat->Nat}{f:Nat->Nat->List UInt8}(r:RowsS h A n wl f){i:Nat}(hi:i<n):∃ (a:bB) (s:HV),A=some a/\s.n=wl i/\h.cell? (Addr.add a (i*1))=some (.slice s.A s.n s.c)/\aT SSr h s.A (wl i) (f i):=by
 obtain ⟨d,s,e,r⟩:=r
 obtain ⟨u,b,l,r⟩:=r i hi
 obtain ⟨a,g,k⟩:=SlF.at dc s (i:=i) o
 have j:d[i]=u:=by
  rw [List.getElem?_eq_getElem o] at b;exact Option.some.inj b
 have:=k 0 _ (by rw [j];rfl)
 rw [Jc] at this
 exact ⟨a,u,g,l,this,r⟩
def Eu(f:Nat->Nat->List UInt8)(w:Nat):Nat->List UInt8:=fun k=>f (k/w) (k%w)
def A4v(n:Nat)(wl:Nat->Nat):Prop:=n≠0/\wl 0≠0/\∀ i,i<n->wl i=wl 0
def NewO(n:Nat)(wl:Nat->Nat)(f:Nat->Nat->List UInt8)(o:MOut):Prop:=
 (¬ A4v n wl/\o=noM 4)\/(A4v n wl/\¬ (n<=64/\wl 0<=64)/\o=noM 2)\/(A4v n wl/\(n<=64/\wl 0<=64)/\((¬ Mx (n:Int) (wl 0:Int) (n*wl 0) (Eu f (wl 0))/\o=noM 1)\/(Mx (n:Int) (wl 0:Int) (n*wl 0) (Eu f (wl 0))/\o=⟨(n:Int),(wl 0:Int),n*wl 0,Eu f (wl 0),0⟩)))
def NewO.eq{n:Nat}{wl:Nat->Nat}{f:Nat->Nat->List UInt8}{o p:MOut}(x:NewO n wl f o)(y:NewO n wl f p):o=p:=by
 rcases x with ⟨h1,rfl⟩|⟨h1,h2,rfl⟩|⟨h1,h2,⟨h3,rfl⟩|⟨h3,rfl⟩⟩<;>rcases y with ⟨g1,rfl⟩|⟨g1,g2,rfl⟩|⟨g1,g2,⟨g3,rfl⟩|⟨g3,rfl⟩⟩<;>first|rfl|(exact absurd g1 h1)|(exact absurd h1 g1)|(exact absurd g2 h2)|(exact absurd h2 g2)|(exact absurd g3 h3)|(exact absurd h3 g3)
def NewO.n_le{n:Nat}{wl:Nat->Nat}{f:Nat->Nat->List UInt8}{o:MOut}(x:NewO n wl f o):o.n<=4096:=by
 rcases x with ⟨_,rfl⟩|⟨_,_,rfl⟩|⟨_,a,⟨_,rfl⟩|⟨_,rfl⟩⟩
 ·exact aG _
 ·exact aG _
 ·exact aG _
 ·have:n*wl 0<=64*64:=aD a.1 a.2
  exact this
def A21(z:Value)(m:Nat):aI #[z] m=Array.replicate m z:=by
 unfold aI
 apply Array.ext
 ·simp
 ·intro i a b
  simp [Nat.mod_one]
def Uu{P:aN}{t e ty ti:aH}{z:Value}{bytes:Nat}(st:SliceT P t e z 1 bytes)(hti:P.underlying ti=some (.int .i64))(hz1:z.cells=#[z]){N:Nat}(hN:1<=N)(hN2:N<=1000000)(hb:(2*N+192)*bytes<=281474976710656){K:VP}{h:Heap}
 (x:∀ b c,h b=none->N<=c->K (.slice (some ⟨b,0,none⟩) N c) (h.put b (.cells (List.replicate c z).toArray e))):wpH P (Builtin.append_ #[t,ti] ty #[.slice none 0 0,I (N:Int)]) K h:=by
 obtain ⟨i,g,r,m,f⟩:=st.parts
 unfold Builtin.append_
 have s:IntKind.i64.wrap (N:Int)=(N:Int):=B6 o o
 have y:N*bytes<=281474976710656:=Nat.le_trans (aC _ o) hb
 have l:¬ ((N:Int)*(bytes:Int)>2^48):=by
  rw [<- Int.natCast_mul]
  have:(2:Int)^48=281474976710656:=dc
  rw [this];omega
 simp only [List.getElem?_toArray,List.getElem?_cons_zero,List.getElem?_cons_succ,C0,D3 st.und,D3 hti,H1 g,F3,if_true,asInt,asIntOf,s,E4 g,f,l,if_false,show ¬ ((N:Int)<0) from o,Int.toNat_natCast,m,Nat.zero_add,Nat.mul_one,show ¬ (N<=0) from o,show ¬ (N=0) from o,Bool.not_true,Bool.false_eq_true]
 have n:=Cm (show 0<N from o)
 have A:Builtin.nextslicecap N 0*bytes<=281474976710656:=Nat.le_trans (aC _ n) hb
 rw [iN (by rintro ⟨q,_⟩;simp only [IntKind.max,IntKind.signed,IntKind.bits] at q;simp at q;omega)]
 simp only [C0,E4 g,f]
 rw [iN (by simp only [show (2^48:Nat)=281474976710656 from rfl];omega)]
 simp only [F3,C0]
 refine V4 rfl fun u=>?_
 simp only [S8,E4 g]
 refine G9 (cs:=[]) (by simp) (.inl rfl) ?_
 simp only [I8 g r,F3,O4,C0]
 intro b a
 have j:∃ d,(Question.appendCap N 0 e).cut u=d/\N<=d:=⟨_,rfl,by simp only [Question.cut];omega⟩
 obtain ⟨d,p,k⟩:=j
 rw [p]
 have:=x b d a k
 have w:aI z.cells N++aI z.cells (d-N)=Array.replicate d z:=by
  rw [hz1,A21,A21]
  apply Array.ext
  ·simp only [Array.size_append,Array.size_replicate]
   omega
  ·intro i C B
   simp [Array.getElem_append]
 simpa [w] using this
section
variable {h:Heap} {K:VP} {A:Option bB} {n cap N:Nat} {r c:Int} {la:Nat->List UInt8} {wl:Nat->Nat} {f:Nat->Nat->List UInt8}
def Ur(hN:1<=N)(hN2:N<=1000000)
 (hK:∀ A' c' h' o',Sep h' h o'->OwnSl o' 9 A' c' ([]:List (List UInt8))->K (.slice A' 0 c') h'):aQ prog 154 #[.slice none 0 0,I (N:Int)] h K:=by
 refine (fnk func154) ?_
 refine B5 (fun d=>o) (fun _=>?_)
 have c:B7 ((N:Int)-B7 (((0:Nat):Int)-((0:Nat):Int)))=(N:Int):=by
  have:B7 (((0:Nat):Int)-((0:Nat):Int))=0:=B6 o o
  rw [this,B6]<;>omega
 rw [c]
 refine B5 (fun _=>?_) (fun d=>o)
 refine ⟨⟨o,o⟩,?_⟩
 have a:N3 none 0 0 1=none:=by unfold N3;split<;>rfl
 rw [a]
 refine Uu L0 (by kernel_rfl) rfl hN hN2 o ?_
 intro b c' e f
 refine ⟨_,_,_,rfl,⟨o,o⟩,?_⟩
 rw [F2]
 refine hK _ _ _ _ ((Sep.refl h).new e _) ⟨aG _,.inr ⟨b,List.replicate c' (aZ (bs [])),rfl,B8 _ _ _,by rw [List.length_replicate];exact (Nat.mul_one _).symm,by simp⟩⟩
def Ti{g:Heap}{xs ys:List (List UInt8)}{w k:Nat}(hx:xs.length=k*w)(r:Row SSr g xs (k*w) (Eu f w))(r2:Row SSr g ys w (f k)):Row SSr g (xs++ys) (k*w+w) (Eu f w):=by
 refine Row.app hx r (r2.congr fun j a=>?_)
 obtain ⟨c,b⟩:=Za (i:=k) a
 unfold Eu
 rw [c,b]
def Of{w:Nat}(rs:RowsS h A n wl f)(hn1:1<=n)(hn:n<=64)(hw1:1<=w)(hw:w<=64)(hwl:∀ i,i<n->wl i=w)
 (hK:∀ A' c' h',h.le h'->aT SSr h' A' (n*w) (Eu f w)->K (.slice A' (n*w) c') h'):aQ prog 84 #[.slice A n cap] h K:=by
 refine (fnk func84 [(3,[3,11],[],[I 0,I 0]),(11,[6,27],[],[.slice none 0 0,I 0])]) ?_
 have W:n*w<=64*64:=aD hn hw
 have p:1<=n*w:=Nat.mul_pos hn1 hw1
 refine ⟨fun L t=>∃ k:Nat,k<=n/\L=[I ((k*w:Nat):Int),I (k:Int)]/\t=h,fun L _=>n-(iAt L 1).toNat,⟨0,oo,by rw [aK];rfl,rfl⟩,?_⟩
 rintro sz z t ⟨k,hk,u,rfl⟩
 simp only [aM,aL,true_and,and_true] at u
 obtain ⟨rfl,rfl⟩:=u
 refine B5 (fun y=>?_) (fun O=>?_)
 ·have b:k<n:=oo
  obtain ⟨a,s,F,x,G,_⟩:=rs.at b
  have d:(k+1)*w=k*w+w:=by rw [Nat.add_mul,Nat.one_mul]
  have B:(k+1)*w<=n*w:=aC _ b
  have R:B7 (((k*w:Nat):Int)+((s.n:Nat):Int))=(((k+1)*w:Nat):Int):=by rw [x,hwl k b,B6]<;>omega
  refine ⟨a,F,oo,oo,_,_,_,G,?_⟩
  rw [R]
  refine B5 (fun e=>oo) (fun _=>?_)
  rw [wiS k oo]
  refine ⟨⟨k+1,oo,rfl,rfl⟩,?_⟩
  show n-((k+1:Nat):Int).toNat<n-(k:Int).toNat
  omega
 have b:k=n:=oo
 subst b
 refine Ur p oo ?_
 intro A1 c1 h1 T s1 C
 refine ⟨_,_,_,rfl,fun L q=>∃ (i:Nat) (g o:Heap) (r:List (List UInt8)) (A':Option bB) (c':Nat),i<=k/\L=[.slice A' (i*w) c',I (i:Int)]/\t.le g/\Sep q g o/\OwnSl o 9 A' c' r/\r.length=i*w/\Row SSr g r (i*w) (Eu f w),fun L _=>k-(iAt L 1).toNat,⟨0,t,T,[],A1,c1,oo,by rw [aK];rfl,B3 _,s1,C,by simp,by rw [aK];exact Row.nil⟩,?_⟩
 rintro S qn qc z q ⟨i,g,o,r,A',c',hi,u,l,s,N,c,M⟩
 obtain ⟨⟨rfl,rfl,rfl⟩,rfl⟩:=sI2 u
 refine B5 (fun y=>?_) (fun H=>?_)
 ·have j:i<k:=oo
  obtain ⟨a,sv,F,x,G,row⟩:=rs.at j
  rw [hwl i j] at x row
  obtain ⟨ys,Q,m,qy⟩:=row
  have d:(i+1)*w=i*w+w:=by rw [Nat.add_mul,Nat.one_mul]
  have B:(i+1)*w<=k*w:=aC _ j
  refine ⟨a,F,oo,oo,_,_,_,C4 (A0 l s.le) G,?_⟩
  refine OwnSl.app (ty:=52) L0 s N c.symm oo (by rintro rfl;simp at m;omega) (Q.mono (A0 l s.le)) oo oo ?_
  intro A3 X h3 g3 V E s3 D _
  rw [c,x,<- d,wiS i oo]
  refine ⟨_,_,_,rfl,⟨i+1,g3,V,_,A3,X,oo,rfl,A0 l E,s3,D,by rw [List.length_append,c,m,d],?_⟩,?_⟩
  ·rw [d]
   exact Ti c (M.mono R2 E) (qy.mono R2 (A0 l E))
  ·show k-((i+1:Nat):Int).toNat<k-(i:Int).toNat
   omega
 ·have:i=k:=oo
  subst this
  exact hK S qc q (A0 l s.le) ⟨r,N.slF s.ole,c,M.mono R2 s.le⟩
def Xx(gl:Gl h)(rs:RowsS h A n wl f)(hn:n<=70)(hw:∀ i,i<n->wl i<=70)(hl:∀ i j,i<n->j<wl i->(f i j).length<=40)
 (hK:∀ o,NewO n wl f o->∀ A' c' h',h.le h'->aT SSr h' A' o.n o.f->K (.tuple #[Ft o.r o.c A' o.n c',I o.e]) h'):aQ prog 32 #[.slice A n cap] h K:=by
 refine (fnk func32 [(5,[27],[(2,3)],[I 0,I 0,I 0,.slice none 0 0])] (own:=[2,4])) ?_
 have m:¬ A4v n wl->∀ h',h.le h'->K (.tuple #[Ft 0 0 none 0 0,I 4]) h':=fun p h' l=>hK (noM 4) (.inl ⟨p,rfl⟩) none 0 h' l RowV.nil
 refine D5 (fun e=>m (fun x=>x.1 oo) h (B3 _)) (fun e0=>?_)
 have q:1<=n:=oo
 obtain ⟨a,s,N,M,O,_⟩:=rs.at (i:=0) oo
 refine ⟨a,N,oo,oo,_,_,_,O,?_⟩
 rw [M]
 refine D5 (fun e=>m (fun x=>x.2.1 oo) h (B3 _)) (fun e2=>?_)
 refine ⟨a,N,oo,oo,_,_,_,O,?_⟩
 rw [M]
 refine ⟨fun L w=>∃ k:Nat,k<=n/\L=[I (k:Int),I 0,I 0,.slice none 0 0]/\w=h/\∀ i,i<k->wl i=wl 0,fun L _=>n-(iAt L 0).toNat,⟨0,oo,rfl,rfl,fun i C=>oo⟩,?_⟩
 rintro z x0 x1 aa ab V w ⟨k,hk,H,rfl,g⟩
 simp only [aM,aL,aS,true_and,and_true] at H
 obtain ⟨rfl,rfl,rfl,rfl,rfl,rfl⟩:=H
 refine B5 (fun R=>?_) (fun Q=>?_)
 ·have d:k<n:=oo
  obtain ⟨T,s3,u,W,D,_⟩:=rs.at d
  refine ⟨T,u,oo,oo,_,_,_,D,?_⟩
  rw [W]
  refine K8 (fun e=>m (fun x=>e (by rw [x.2.2 k d])) _ (B3 _)) (fun e=>?_)
  rw [wiS k oo]
  refine ⟨⟨k+1,oo,rfl,rfl,fun i C=>?_⟩,by simp only [Dj];omega⟩
  by_cases X:i=k
  ·subst X;omega
  ·exact g i oo
 have d:k=n:=oo
 subst d
 have t:A4v k wl:=⟨oo,oo,g⟩
 have big:¬ (k<=64/\wl 0<=64)->∀ h',w.le h'->K (.tuple #[Ft 0 0 none 0 0,I 2]) h':=fun p h' l=>hK (noM 2) (.inr (.inl ⟨t,p,rfl⟩)) none 0 h' l RowV.nil
 refine B5 (fun e=>big (fun x=>oo) _ (B3 _)) (fun b1=>?_)
 refine B5 (fun e=>big (fun x=>oo) _ (B3 _)) (fun b2=>?_)
 have b:k<=64/\wl 0<=64:=⟨oo,oo⟩
 refine Of rs q b.1 oo b.2 g ?_
 intro A4 c4 G y F
 refine ⟨_,_,_,rfl,?_⟩
 have S:k*wl 0<=64*64:=aD b.1 b.2
 have B:∀ i,i<k*wl 0->(Eu f (wl 0) i).length<=140737488351232:=fun i C=>by
  have E:i/wl 0<k:=Nat.div_lt_of_lt_mul (by rw [Nat.mul_comm];exact C)
  have:=hl (i/wl 0) (i%wl 0) E (by rw [g _ E];exact Nat.mod_lt i oo)
  show (f _ _).length<=_
  omega
 exact Dh (gl.mono y) F oo B (fun p=>⟨_,rfl,Br.nt (hK ⟨(k:Int),(wl 0:Int),k*wl 0,Eu f (wl 0),0⟩ (.inr (.inr ⟨t,b,.inr ⟨p,rfl⟩⟩)) A4 c4 G y F)⟩) (fun p=>⟨_,rfl,A02 (hK (noM 1) (.inr (.inr ⟨t,b,.inl ⟨p,rfl⟩⟩)) none 0 G y RowV.nil)⟩)
def Yl(rs:RowsS h A n wl f)(hn:n<=70)(hw:∀ i,i<n->wl i<=70)(hl:∀ i j,i<n->j<wl i->(f i j).length<=40)
 (hK:∀ o,NewO n wl f o->∀ A' c' h',h.le h'->aT SSr h' A' o.n o.f->K (.tuple #[Ft o.r o.c A' o.n c',I o.e]) h'):aQ prog 33 #[.slice A n cap] h K:=by
 refine (fnk func33 [(4,[4],[(2,3)],[I 0,I 0,I 0,.slice none 0 0]),(12,[6],[(5,3)],[I 0,I 0,I 0,.slice none 0 0])] (own:=[2,5]) (wr:=[1000000000])) ?_
 have y:¬ A4v n wl->∀ h',h.le h'->K (.tuple #[Ft 0 0 none 0 0,I 4]) h':=fun B h' l=>hK (noM 4) (.inl ⟨B,rfl⟩) none 0 h' l RowV.nil
 refine D5 (fun e=>y (fun x=>x.1 oo) h (B3 _)) (fun e0=>?_)
 have ae:1<=n:=oo
 obtain ⟨a,s,M,H,N,_⟩:=rs.at (i:=0) oo
 refine ⟨a,M,oo,oo,_,_,_,N,?_⟩
 rw [H]
 refine D5 (fun e=>y (fun x=>x.2.1 oo) h (B3 _)) (fun e2=>?_)
 refine ⟨fun L C=>∃ k:Nat,k<=n/\L=[I (k:Int),I 0,I 0,.slice none 0 0]/\C=h/\∀ i,i<k->wl i=wl 0,fun L _=>n-(iAt L 0).toNat,⟨0,oo,rfl,rfl,fun i hi=>oo⟩,?_⟩
 rintro z x0 x1 ag ah af C ⟨k,hk,F,rfl,u⟩
 simp only [aM,aL,aS,true_and,and_true] at F
 obtain ⟨rfl,rfl,rfl,rfl,rfl,rfl⟩:=F
 refine B5 (fun O=>?_) (fun ai=>?_)
 ·have p:k<n:=oo
  obtain ⟨a3,s3,S,e3,aa,_⟩:=rs.at p
  refine ⟨a3,S,oo,oo,_,_,_,aa,a,M,oo,oo,_,_,_,N,?_⟩
  rw [e3,H]
  refine K8 (fun e=>y (fun x=>e (by rw [x.2.2 k p])) _ (B3 _)) (fun e=>?_)
  rw [wiS k oo]
  refine ⟨⟨k+1,oo,rfl,rfl,fun i hi=>?_⟩,by simp only [Dj];omega⟩
  by_cases e4:i=k
  ·subst e4;omega
  ·exact u i oo
 have p:k=n:=oo
 subst p
 have Q:A4v k wl:=⟨oo,oo,u⟩
 have big:¬ (k<=64/\wl 0<=64)->∀ h',C.le h'->K (.tuple #[Ft 0 0 none 0 0,I 2]) h':=fun B h' l=>hK (noM 2) (.inr (.inl ⟨Q,B,rfl⟩)) none 0 h' l RowV.nil
 refine B5 (fun e=>big (fun x=>oo) _ (B3 _)) (fun b1=>?_)
 refine ⟨a,M,oo,oo,_,_,_,N,?_⟩
 rw [H]
 refine B5 (fun e=>big (fun x=>oo) _ (B3 _)) (fun b2=>?_)
 have b:k<=64/\wl 0<=64:=⟨oo,oo⟩
 have ad:k*wl 0<=64*64:=aD b.1 b.2
 refine ⟨a,M,oo,oo,_,_,_,N,?_⟩
 rw [H]
 refine ⟨fun L q=>∃ (i:Nat) (g o:Heap) (G:List (List UInt8)) (A':Option bB) (c':Nat),i<=k/\L=[I (i:Int),I (k:Int),I (wl 0:Int),.slice A' (i*wl 0) c']/\C.le g/\Sep q g o/\OwnSl o 9 A' c' G/\G.length=i*wl 0/\Row SSr g G (i*wl 0) (Eu f (wl 0)),fun L _=>k-(iAt L 0).toNat,⟨0,C,Gq,[],none,0,oo,by rw [aK];rfl,B3 _,Sep.refl C,OwnSl.nil,by simp,by rw [aK];exact Row.nil⟩,?_⟩
 rintro z y0 y1 qA qn qc q ⟨i,g,o,G,A',c',hi,F,D,s,ow,d,rr⟩
 simp only [aM,aL,aS,true_and,and_true] at F
 obtain ⟨rfl,rfl,rfl,rfl,rfl,rfl⟩:=F
 refine B5 (fun O=>?_) (fun ab=>?_)
 ·have m:i<k:=oo
  obtain ⟨a5,sv,T,e5,R,row⟩:=rs.at m
  rw [u i m] at e5 row
  obtain ⟨ys,sy,E,qy⟩:=row
  have w:(i+1)*wl 0=i*wl 0+wl 0:=by rw [Nat.add_mul,Nat.one_mul]
  have ac:(i+1)*wl 0<=k*wl 0:=aC _ m
  refine ⟨a5,T,oo,oo,_,_,_,C4 (A0 D s.le) R,?_⟩
  refine OwnSl.app (ty:=52) L0 s ow d.symm oo (by rintro rfl;simp at E;omega) (sy.mono (A0 D s.le)) oo oo ?_
  intro A3 c3 h3 g3 o3 W s3 V _
  rw [d,e5,<- w,wiS i oo]
  refine ⟨_,_,_,rfl,⟨i+1,g3,o3,_,A3,c3,oo,rfl,A0 D W,s3,V,by rw [List.length_append,d,E,w],?_⟩,by simp only [Dj];omega⟩
  rw [w]
  exact Ti d (rr.mono R2 W) (qy.mono R2 (A0 D W))
 have m:i=k:=oo
 subst m
 have l4:=A0 D s.le
 have r4:aT SSr q qA (i*wl 0) (Eu f (wl 0)):=⟨G,ow.slF s.ole,d,rr.mono R2 s.le⟩
 have X:∀ t,t<i*wl 0->(Eu f (wl 0) t).length<=140737488351232:=fun t ht=>by
  have hd:t/wl 0<i:=Nat.div_lt_of_lt_mul (by rw [Nat.mul_comm];exact ht)
  have:=hl (t/wl 0) (t%wl 0) hd (by rw [u _ hd];exact Nat.mod_lt t oo)
  show (f _ _).length<=_
  omega
 exact Z9 r4 oo X (fun B h' l=>⟨_,rfl,Br.nt (hK ⟨(i:Int),(wl 0:Int),i*wl 0,Eu f (wl 0),0⟩ (.inr (.inr ⟨Q,b,.inr ⟨B,rfl⟩⟩)) qA qc h' (A0 l4 l) (r4.mono R2 l))⟩) (fun B h' l=>⟨_,rfl,A02 (hK (noM 1) (.inr (.inr ⟨Q,b,.inl ⟨B,rfl⟩⟩)) none 0 h' (A0 l4 l) RowV.nil)⟩)
def IdO(n:Int)(o:MOut):Prop:=(¬ (1<=n/\n<=64)/\o=noM 3)\/(∃ q:Nat,n=q/\1<=q/\q<=64/\o=⟨(q:Int),(q:Int),q*q,Rh (fun a b=>if a=b then 1 else 0) q,0⟩)
def IdO.eq{n:Int}{o p:MOut}(x:IdO n o)(y:IdO n p):o=p:=by
 rcases x with ⟨h1,rfl⟩|⟨q,h1,h2,h3,rfl⟩<;>rcases y with ⟨g1,rfl⟩|⟨q2,g1,g2,g3,rfl⟩
 ·rfl
 ·exact absurd ⟨oo,oo⟩ h1
 ·exact absurd ⟨oo,oo⟩ g1
 ·obtain rfl:q2=q:=oo
  rfl
def IdO.n_le{n:Int}{o:MOut}(x:IdO n o):o.n<=4096:=by
 rcases x with ⟨_,rfl⟩|⟨q,_,b,a,rfl⟩
 ·exact aG _
 ·have:q*q<=64*64:=aD a a
  exact this
def Oe{m:Int}(hK:∀ o,IdO m o->∀ A' c' h',h.le h'->aT SSr h' A' o.n o.f->K (.tuple #[Ft o.r o.c A' o.n c',I o.e]) h'):aQ prog 34 #[I m] h K:=by
 by_cases g:1<=m/\m<=64
 ·obtain ⟨q,rfl⟩:∃ q:Nat,m=q:=⟨m.toNat,oo⟩
  exact Rb oo oo fun b h' l r=>hK ⟨(q:Int),(q:Int),q*q,Rh (fun a b=>if a=b then 1 else 0) q,0⟩ (.inr ⟨q,rfl,oo,oo,rfl⟩) _ _ h' l r
 ·have d:=hK (noM 3) (.inl ⟨g,rfl⟩) none 0 h (B3 _) RowV.nil
  refine (fnk func34 [(5,[22],[],[I 0])] (own:=[2,4])) ?_
  exact B5 (fun _=>d) (fun i=>B5 (fun _=>d) (fun j=>absurd ⟨oo,oo⟩ g))
def Ou{m:Int}(hK:∀ o,IdO m o->∀ A' c' h',h.le h'->aT SSr h' A' o.n o.f->K (.tuple #[Ft o.r o.c A' o.n c',I o.e]) h'):aQ prog 35 #[I m] h K:=by
 refine (fnk func35 (own:=[2])) ?_
 by_cases k:1<=m/\m<=64
 ·obtain ⟨q,rfl⟩:∃ q:Nat,m=q:=⟨m.toNat,oo⟩
  refine B5 (fun g=>oo) (fun _=>B5 (fun g=>oo) (fun _=>?_))
  refine Uw oo ?_
  intro z g s l
  refine ⟨_,_,_,rfl,?_⟩
  refine Uy (m:=1) l oo oo oo oo (fun i j _ _=>?_) oo ?_
  ·show Sz 1 (if i=j then 1 else 0)
   split
   ·exact ⟨ZB.one oo,ZB.one oo⟩
   ·exact Sz.zero oo
  intro A3 t u x w p
  exact ⟨_,_,_,_,_,rfl,hK ⟨(q:Int),(q:Int),q*q,Rh (fun a b=>if a=b then 1 else 0) q,0⟩ (.inr ⟨q,rfl,oo,oo,rfl⟩) A3 t u (A0 s x) p⟩
 ·have d:=hK (noM 3) (.inl ⟨k,rfl⟩) none 0 h (B3 _) RowV.nil
  exact B5 (fun _=>d) (fun g=>B5 (fun _=>d) (fun y=>absurd ⟨oo,oo⟩ k))
def AtO(r c:Int)(n:Nat)(la:Nat->List UInt8)(i j:Int)(s:List UInt8):Prop:=
 (¬ (Mx r c n la/\0<=i/\i<r/\0<=j/\j<c)/\s=[48])\/(∃ rows cols,MOk r c n la rows cols/\∃ a b:Nat,i=a/\j=b/\a<rows/\b<cols/\s=la (a*cols+b))
def AtO.eq{r c:Int}{n:Nat}{la:Nat->List UInt8}{i j:Int}{s t:List UInt8}(x:AtO r c n la i j s)(y:AtO r c n la i j t):s=t:=by
 rcases x with ⟨h1,rfl⟩|⟨r1,c1,h1,a,b,h2,h3,h4,h5,rfl⟩<;>rcases y with ⟨g1,rfl⟩|⟨r2,c2,g1,a',b',g2,g3,g4,g5,rfl⟩
 ·rfl
 ·exact absurd ⟨⟨_,_,g1⟩,o,by have:=g1.er;omega,o,by have:=g1.ec;omega⟩ h1
 ·exact absurd ⟨⟨_,_,h1⟩,o,by have:=h1.er;omega,o,by have:=h1.ec;omega⟩ g1
 ·obtain rfl:c2=c1:=by have:=h1.ec;have:=g1.ec;omega
  obtain rfl:a'=a:=o
  obtain rfl:b'=b:=o
  rfl
def A2v{i j:Int}(ra:aT SSr h A n la)(hno:∀ s,AtO r c n la i j s->K (.string (bs s)) h)(hx:Mx r c n la):
 Br (decide (i<(0:Int))) (K (.string ({ data:=#[48] }:ByteArray)) h) (Br (decide (i>=r)) (K (.string ({ data:=#[48] }:ByteArray)) h) (Br (decide (j<(0:Int))) (K (.string ({ data:=#[48] }:ByteArray)) h) (Br (decide (j>=c)) (K (.string ({ data:=#[48] }:ByteArray)) h)
 (∃ a,A=some a/\0<=B7 ((B7 (i*c))+j)/\B7 ((B7 (i*c))+j)<((n:Nat):Int)/\∃ (t39:ByteArray),Heap.cell? h (Addr.add a ((B7 ((B7 (i*c))+j)).toNat*1))=some (.string t39)/\K (.string t39) h)))):=by
 have g:¬ (0<=i/\i<r/\0<=j/\j<c)->K (.string ({ data:=#[48] }:ByteArray)) h:=fun l=>hno [48] (.inl ⟨fun x=>l x.2,rfl⟩)
 refine B5 (fun e=>g (fun x=>o)) (fun C=>B5 (fun e=>g (fun x=>o)) (fun t=>B5 (fun e=>g (fun x=>o)) (fun w=>B5 (fun e=>g (fun x=>o)) (fun u=>?_))))
 obtain ⟨f,d,mk⟩:=hx
 have k:=fun a b t w u z=>hno (la (a*d+b)) (.inr ⟨f,d,mk,a,b,t,w,u,z,rfl⟩)
 have:=mk.r2;have:=mk.c2
 obtain ⟨rfl,rfl,_,_,_,_,rfl,_⟩:=id mk
 obtain ⟨a,rfl⟩:∃ a:Nat,i=a:=⟨i.toNat,o⟩
 obtain ⟨b,rfl⟩:∃ b:Nat,j=b:=⟨j.toNat,o⟩
 have q:a<f:=o
 have l:b<d:=o
 have m:=Gr q l
 have B:f*d<=64*64:=aD o o
 have y:B7 (B7 ((a:Int)*(d:Int))+(b:Int))=((a*d+b:Nat):Int):=by
  rw [<- Int.natCast_mul,R7 o]
  exact R7 (n:=a*d+b) o
 rw [y]
 obtain ⟨x,ex,p⟩:=ra.sat m
 exact ⟨x,ex,o,o,_,p,k a b rfl rfl q l⟩
def Xz{i j:Int}(gl:Gl h)(ra:aT SSr h A n la)(hn:n<=1000000)(hl:∀ i,i<n->(la i).length<=140737488351232)
 (hK:∀ s,AtO r c n la i j s->K (.string (bs s)) h):aQ prog 39 #[Ft r c A n cap,I i,I j] h K:=by
 refine (fnk func39 (own:=[3])) ?_
 exact Dh gl ra hn hl (fun b=>⟨_,rfl,Br.nt (A2v ra hK b)⟩) (fun a=>⟨_,rfl,A02 (hK [48] (.inl ⟨fun x=>a x.1,rfl⟩))⟩)
def Yr{i j:Int}(ra:aT SSr h A n la)(hn:n<=1000000)(hl:∀ i,i<n->(la i).length<=140737488351232)
 (hK:∀ s,AtO r c n la i j s->∀ h',h.le h'->K (.string (bs s)) h'):aQ prog 40 #[Ft r c A n cap,I i,I j] h K:=by
 refine (fnk func40 (own:=[3])) ?_
 exact Z9 ra hn hl (fun d h' l=>⟨_,rfl,Br.nt (A2v (ra.mono R2 l) (fun s b=>hK s b h' l) d)⟩) (fun a h' l=>⟨_,rfl,A02 (hK [48] (.inl ⟨fun x=>a x.1,rfl⟩) h' l)⟩)
end
section
variable {h:Heap} {K:VP} {A B:Option bB} {n n2 cap cap2:Nat} {r c p i j:Int} {la:Nat->List UInt8} {wl:Nat->Nat} {f:Nat->Nat->List UInt8}
def law_matrixNew(gl:Gl h)(rs:RowsS h A n wl f)(s2:aT SSr h B n2 la)(hl:∀ i,i<n2->(la i).length<=140737488351232):aQ prog 5 #[.slice A n cap,Ft r c B n2 cap2,I p,I i,I j] h (A52 h):=by
 refine (fnk func5 [(4,[11],[],[I 0])] (os:=[(12,[0,1,2,3,4,5,6,7,8,9,10,11,12,13,14,15,16,17,18,19,21,20,22,23,24,25,26,27,28,30,31,32,29,33,34,35,36,37,38,39])]) (own:=[6,12,14,16,18])) ?_
 have aw:∀ E,h.le E->aQ prog 31 #[] E (fun r x=>∃ t,r= .bool t/\A52 h (.bool t) x):=fun E l=>Ki (gl.mono l) fun V y=>⟨_,rfl,rfl,A0 l y⟩
 have aw2:∀ E,h.le E->aQ prog 31 #[] E (fun r x=>∃ t,r= .bool t/\Heap.le E x/\A52 h (.bool t) x):=fun E l=>Ki (gl.mono l) fun V y=>⟨_,rfl,y,rfl,A0 l y⟩
 have w:=aw h (B3 _)
 refine B5 (fun _=>w) (fun b1=>B5 (fun _=>w) (fun b2=>?_))
 refine ⟨fun L x=>∃ k:Nat,k<=n/\L=[I (k:Int)]/\x=h/\∀ a,a<k->wl a<=70/\∀ b,b<wl a->(f a b).length<=40,fun L _=>n-(iAt L 0).toNat,⟨0,o,rfl,rfl,fun a Q=>o⟩,?_⟩
 rintro z x ⟨k,hk,eL,rfl,hh⟩
 obtain rfl:=sI1 eL
 refine B5 (fun ag=>?_) (fun af=>?_)
 ·have H:k<n:=o
  obtain ⟨a,s,ea,e1,hc,row⟩:=rs.at H
  refine ⟨a,ea,o,o,_,_,_,hc,?_⟩
  rw [e1]
  refine B5 (fun _=>w) (fun b3=>?_)
  refine ⟨a,ea,o,o,_,_,_,hc,?_⟩
  rw [e1]
  refine Rd row o (fun ae=>⟨_,rfl,Br.nt ?_⟩) (fun _=>⟨_,rfl,A02 w⟩)
  rw [wiS k o]
  refine ⟨⟨k+1,o,rfl,rfl,fun a Q=>?_⟩,by simp only [Dj];omega⟩
  by_cases e:a=k
  ·subst e
   exact ⟨o,fun b T=>by have:=ae b T;omega⟩
  ·exact hh a o
 have H:k=n:=o
 subst H
 have hw:∀ a,a<k->wl a<=70:=fun a Q=>(hh a Q).1
 have hf:∀ a b,a<k->b<wl a->(f a b).length<=40:=fun a b Q T=>(hh a Q).2 b T
 refine Xx gl rs o hw hf ?_
 intro o1 O A1 c1 h1 l1 r1
 refine ⟨_,_,_,_,_,_,rfl,?_⟩
 refine Yl (rs.mono l1) o hw hf ?_
 intro p1 S A2 c2 h2 l2 r2
 obtain rfl:=O.eq S
 refine ⟨_,_,_,_,_,_,rfl,?_⟩
 have aa:=A0 l1 l2
 refine Oe ?_
 intro o3 N A3 c3 h3 l3 r3
 refine ⟨_,_,_,_,_,_,rfl,?_⟩
 have W:=A0 aa l3
 refine Ou ?_
 intro p3 ab A4 c4 h4 R r4
 obtain rfl:=N.eq ab
 refine ⟨_,_,_,_,_,_,rfl,?_⟩
 have q:=A0 W R
 refine Cw (r1.mono R2 (A0 l2 (A0 l3 R))) (r2.mono R2 (A0 l3 R)) (by have:=O.n_le;omega) (fun _ _ _ _=>⟨_,rfl,B3 _,A01 ?_⟩) (fun d=>absurd ⟨rfl,rfl,rfl,fun _ _=>rfl⟩ d)
 refine D5 (fun _=>?_) (fun e=>absurd rfl e)
 refine Cw (r3.mono R2 R) r4 (by have:=N.n_le;omega) (fun _ _ _ _=>⟨_,rfl,B3 _,A01 ?_⟩) (fun d=>absurd ⟨rfl,rfl,rfl,fun _ _=>rfl⟩ d)
 refine D5 (fun _=>?_) (fun e=>absurd rfl e)
 have u:n2<=1000000:=o
 have F:∀ G,h4.le G->aQ prog 39 #[Ft r c B n2 cap2,I i,I j] G (fun ac m=>∃ (t100:ByteArray),ac= .string t100/\Heap.le G m/\aQ prog 40 #[Ft r c B n2 cap2,I i,I j] m (fun ad g=>∃ (t104:ByteArray),ad= .string t104/\Heap.le m g/\Br (aJ t100==aJ t104) (aQ prog 31 #[] g (fun X D=>∃ (t108:Bool),X= .bool t108/\Heap.le g D/\A52 x (.bool t108) D))
  (A52 x (.bool false) g))):=by
  intro G M
  have C:=A0 q M
  refine Xz (gl.mono C) (s2.mono R2 C) u hl ?_
  intro s hs
  refine ⟨_,rfl,B3 _,?_⟩
  refine Yr (s2.mono R2 C) u hl ?_
  intro t ht h6 l6
  obtain rfl:=hs.eq ht
  refine ⟨_,rfl,l6,?_⟩
  rw [show (aJ (bs s)==aJ (bs s))=true from beq_self_eq_true _]
  exact A01 (aw2 h6 (A0 C l6))
 refine Dh (gl.mono q) (s2.mono R2 q) u hl (fun hx=>⟨_,rfl,B3 _,?_⟩) (fun hx=>⟨_,rfl,B3 _,?_⟩)
 ·refine Z9 (s2.mono R2 q) u hl (fun _ G M=>⟨_,rfl,M,A01 (F G M)⟩) (fun d=>absurd hx d)
 ·refine Z9 (s2.mono R2 q) u hl (fun d=>absurd d hx) (fun _ G M=>⟨_,rfl,M,A01 (F G M)⟩)
end
end Go.Proofs.YtdphgbjaijlckaaGreatDoor
namespace Go.Proofs.YtdphgbjaijlckaaGreatDoor
set_option maxRecDepth 20000
open Go Go.RowKit
def A2t(s:ByteArray):bs s.data.toList=s:=by
 cases s;simp [bs]
def Xn{H:Type}{enc:aH × Value->H}{P:aN}{W:World}{base:Nat}{sp:Nat->Bool}{held:Bool}{t e:aH}{fuel:Nat}{A:Option bB}{len cap:Nat}{x:DataW H × List MemPlace}(ht:P.underlying t=some (.slice e))(he:P.underlying e=some .string)(hc:P.cellsOf e=1)
 (hf:DataW.trod enc P W base sp held fuel t [.slice A len cap]=some x):∃ ls:Nat->List UInt8,aT SSr (aY W) A len ls/\len<=maxLen:=by
 rcases Deep.open_strs ht he hc hf with ⟨b,_⟩|⟨a,l,c,m,Sx,b,_,p,n,g,_,d⟩
 ·simp at b
  obtain ⟨rfl,rfl,rfl⟩:=b
  exact ⟨fun _=>[],RowV.nil,aG _⟩
 ·simp at b
  obtain ⟨rfl,rfl,rfl⟩:=b
  have k:len<=m:=by rw [g];split<;>omega
  have sl:SlV (aY W) (some a) (((aF len).map fun i=>(Sx i).data.toList).map fun l=>aZ (bs l)):=by
   refine .inr ⟨a,rfl,fun i v f=>?_⟩
   rw [aE,aE] at f
   by_cases j:i<len
   ·rw [aR j] at f
    simp only [aW,aU,A2t] at f
    rw [<- f]
    exact W7 (d i o).1
   ·rw [aP (by simpa using j)] at f;cases f
  have:=W4 sl
  rw [aX,aV] at this
  exact ⟨_,this,o⟩
end Go.Proofs.YtdphgbjaijlckaaGreatDoor
namespace Go.Proofs.YtdphgbjaijlckaaGreatDoor
set_option maxRecDepth 20000
open Go Go.RowKit
def open_rows{H:Type}{enc:aH × Value->H}{P:aN}{W:World}{base:Nat}{sp:Nat->Bool}{held:Bool}{t e1 e:aH}{fuel:Nat}{A:Option bB}{len cap:Nat}{x:DataW H × List MemPlace}(ht:P.underlying t=some (.slice e1))(h1:P.underlying e1=some (.slice e))(he:P.underlying e=some .string)(hc1:P.cellsOf e1=1)(hc:P.cellsOf e=1)
 (hf:DataW.trod enc P W base sp held fuel t [.slice A len cap]=some x):∃ (wl:Nat->Nat) (f:Nat->Nat->List UInt8),RowsS (aY W) A len wl f:=by
 rcases Deep.open_slice1 ht hc1 hf with ⟨b,_⟩|⟨a,l,c,m,n,V,D,Pl,b,_,F,E,q,_,g⟩
 ·simp at b
  obtain ⟨rfl,rfl,rfl⟩:=b
  exact ⟨fun _=>0,fun _ _=>[],[],SlF.nil,rfl,fun i d=>o⟩
 ·simp at b
  obtain ⟨rfl,rfl,rfl⟩:=b
  have B:len<=m:=by rw [q];split<;>omega
  have k:∀ i,i<len->∃ s:HV,V i= .slice s.A s.n s.c:=by
   intro i d
   rcases Deep.open_strs h1 he hc (g i o).2 with ⟨b,_⟩|⟨a,l,c,m,Sx,b,_⟩
   ·simp at b;exact ⟨⟨none,0,0⟩,b⟩
   ·simp at b;exact ⟨⟨some a,l,c⟩,b⟩
  let hv:Nat->HV:=fun i=>if h:i<len then Classical.choose (k i h) else ⟨none,0,0⟩
  have p:∀ i,i<len->V i= .slice (hv i).A (hv i).n (hv i).c:=by
   intro i d
   have:hv i=Classical.choose (k i d):=dif_pos d
   rw [this]
   exact Classical.choose_spec (k i d)
  have row:∀ i,i<len->∃ w:Nat->List UInt8,aT SSr (aY W) (hv i).A (hv i).n w:=by
   intro i d
   have y:=(g i o).2
   rw [p i d] at y
   obtain ⟨w,r,_⟩:=Xn h1 he hc y
   exact ⟨w,r⟩
  let f:Nat->Nat->List UInt8:=fun i=>if h:i<len then Classical.choose (row i h) else fun _=>[]
  have z:∀ i,i<len->aT SSr (aY W) (hv i).A (hv i).n (f i):=by
   intro i d
   have:f i=Classical.choose (row i d):=dif_pos d
   rw [this]
   exact Classical.choose_spec (row i d)
  refine ⟨fun i=>(hv i).n,f,(aF len).map hv,?_,by simp,fun i d=>⟨hv i,by simp [d],rfl,z i d⟩⟩
  have u:((aF len).map hv).flatMap Go.Proofs.YtdphgbjaijlckaaGreatDoor.enc=(aF len).map fun i=>Value.slice (hv i).A (hv i).n (hv i).c:=by
   have C:∀ l:List HV,l.flatMap Go.Proofs.YtdphgbjaijlckaaGreatDoor.enc=l.map fun s=>Value.slice s.A s.n s.c:=by
    intro l
    induction l with
    | nil=>rfl
    | cons x l ih=>rw [List.flatMap_cons,ih];rfl
   rw [C,List.map_map]
   rfl
  show SlV (aY W) (some a) (((aF len).map hv).flatMap Go.Proofs.YtdphgbjaijlckaaGreatDoor.enc)
  rw [u]
  refine .inr ⟨a,rfl,fun i v j=>?_⟩
  rw [aE] at j
  by_cases d:i<len
  ·rw [aR d] at j
   simp only [aW,aU] at j
   rw [<- j,<- p i d]
   exact W7 (g i o).1
  ·rw [aP (by simpa using d)] at j;cases j
def Ww:reachBytes=140737488351232:=dc
def wts_at{H:Type}{P:aN}{ts:List aH}{ds:List (DataW H)}(h:(DataW.weightsEach P ts ds).all (· <= reachBytes)=true){j:Nat}{t:aH}{d:DataW H}(ht:ts[j]? = some t)(hd:ds[j]? = some d):∀ n∈d.weights P t,n<=140737488351232:=by
 intro n a
 have:=List.all_eq_true.1 h _ (DataW.weights_mem_each ht hd n a)
 rw [<- Ww];simpa using this
def A2z{H:Type}{P:aN}{e:aH}{d:DataW H}{n:Nat}(hn:n∈d.weights P e):∀ {l:List (DataW H)},d∈l->n∈DataW.weightsAll P e l:=by
 intro l
 induction l with
 | nil=>intro h;cases h
 | cons x l ih=>
  intro h
  rw [DataW.weightsAll]
  rcases List.mem_cons.1 h with rfl|h
  ·exact List.mem_append_left _ hn
  ·exact aO _ (ih h)
def A2y{H:Type}{P:aN}{t e:aH}{es sp:List (DataW H)}(u:P.underlying t=some (.slice e))(h:∀ n∈(DataW.slice es sp).weights P t,n<=140737488351232):(es.length+sp.length)*P.bytesOf e<=140737488351232:=by
 simp only [DataW.weights,u] at h
 exact h _ (by simp)
def A54{H:Type}{P:aN}{t e:aH}{es sp:List (DataW H)}(u:P.underlying t=some (.slice e))(h:∀ n∈(DataW.slice es sp).weights P t,n<=140737488351232){d:DataW H}(hd:d∈es):∀ n∈d.weights P e,n<=140737488351232:=by
 intro n a
 simp only [DataW.weights,u] at h
 exact h _ (List.mem_cons_of_mem _ (List.mem_append_left _ (A2z a hd)))
end Go.Proofs.YtdphgbjaijlckaaGreatDoor
namespace Go.Proofs.YtdphgbjaijlckaaGreatDoor
set_option maxRecDepth 20000
open Go Go.RowKit
def Xm{H:Type}{enc:aH × Value->H}{P:aN}{W:World}{base:Nat}{sp:Nat->Bool}{held:Bool}{t e:aH}{fuel:Nat}{A:Option bB}{len cap:Nat}{x:DataW H × List MemPlace}(ht:P.underlying t=some (.slice e))(he:P.underlying e=some .string)(hc:P.cellsOf e=1)(hb:P.bytesOf e=16)
 (hf:DataW.trod enc P W base sp held fuel t [.slice A len cap]=some x) (hw:∀ n∈x.1.weights P t,n<=140737488351232):∃ ls:Nat->List UInt8,aT SSr (aY W) A len ls/\len<=8796093021952/\∀ i,i<len->(ls i).length<=140737488351232:=by
 rcases Deep.open_strs ht he hc hf with ⟨b,_⟩|⟨a,l,c,m,Sx,b,_,w,u,k,s,d⟩
 ·simp at b
  obtain ⟨rfl,rfl,rfl⟩:=b
  exact ⟨fun _=>[],RowV.nil,aG _,fun i g=>o⟩
 ·simp at b
  obtain ⟨rfl,rfl,rfl⟩:=b
  have r:len<=m:=by rw [k];split<;>omega
  have sl:SlV (aY W) (some a) (((aF len).map fun i=>(Sx i).data.toList).map fun l=>aZ (bs l)):=by
   refine .inr ⟨a,rfl,fun i v f=>?_⟩
   rw [aE,aE] at f
   by_cases g:i<len
   ·rw [aR g] at f
    simp only [aW,aU,A2t] at f
    rw [<- f]
    exact W7 (d i o).1
   ·rw [aP (by simpa using g)] at f;cases f
  have:=W4 sl
  rw [aX,aV] at this
  rw [s] at hw
  refine ⟨_,this,?_,fun i g=>?_⟩
  ·have q:=A2y ht hw
   rw [hb,aX,aV] at q
   omega
  ·have p:((aF len).map fun i=>(Sx i).data.toList).getD i []=(Sx i).data.toList:=by simp [g]
   rw [p]
   have j:(DataW.lit (.string (Sx i).data.toList):DataW H)∈(aF len).map fun i=>(DataW.lit (.string (Sx i).data.toList):DataW H):=List.mem_map.2 ⟨i,List.mem_range.2 g,rfl⟩
   exact A54 ht hw j _ (by simp [DataW.weights])
def open_matZ{H:Type}{enc:aH × Value->H}{P:aN}{W:World}{base:Nat}{sp:Nat->Bool}{held:Bool}{r:Reach}{b0:Nat}{t e:aH}{f0 f1 f2:Field}{v:Value}{d:DataW H}{ps:List MemPlace}(ht:P.underlying t=some (.struct #[f0,f1,f2]))(u0:P.underlying f0.type=some (.int .i64))(u1:P.underlying f1.type=some (.int .i64))(u2:P.underlying f2.type=some (.slice e))(ue:P.underlying e=some .string)
 (hoff:f0.offset=0/\f1.offset=1/\f2.offset=2/\P.cellsOf f0.type=1/\P.cellsOf f1.type=1/\P.cellsOf f2.type=1/\P.cellsOf t=3/\P.cellsOf e=1) (hb:P.bytesOf e=16)
 (hval:Value.okWide P W r b0 t v) (hd:DataW.Trod enc P W base sp held t v d ps) (hw:∀ n∈d.weights P t,n<=140737488351232):∃ (x y:Int) (A:Option bB) (len cap:Nat) (ls:Nat->List UInt8),v= .agg #[.int .i64 x,.int .i64 y,.slice A len cap]/\aT SSr (aY W) A len ls/\∀ i,i<len->(ls i).length<=140737488351232:=by
 obtain ⟨o0,Q,O,c0,c1,c2,ct,G⟩:=hoff
 obtain ⟨g,rfl,b⟩:=WideShapes.okWide_struct ht hval
 obtain ⟨F,R⟩:=hd
 obtain ⟨X,M,L,n,T,hl,B,D,f⟩:=Deep.trod_struct3 ht R
 rw [o0,c0] at B
 rw [Q,c1] at D
 rw [O,c2] at f
 obtain ⟨C,k,_,_⟩:=DataW.trod_int u0 B
 obtain ⟨E,s,_,_⟩:=DataW.trod_int u1 D
 rw [ct] at b
 have j:g.toList.length=3:=by simpa using b
 obtain ⟨p,q,z,hm⟩:∃ p q z,g.toList=[p,q,z]:=by
  match h:g.toList,j with
  | [p,q,z],_=>exact ⟨p,q,z,rfl⟩
 simp only [Value.cells] at k s f
 rw [hm] at k s f
 simp at k s f
 have N:∃ A len cap,z= .slice A len cap:=by
  rcases Deep.open_strs u2 ue G f with ⟨b,_⟩|⟨a,l,c,m,Sx,b,_⟩
  ·simp at b;exact ⟨_,_,_,b⟩
  ·simp at b;exact ⟨_,_,_,b⟩
 obtain ⟨A,len,cap,rfl⟩:=N
 have u:∀ n∈L.1.weights P f2.type,n<=140737488351232:=by
  intro n V
  have hd:d= .agg [X.1,M.1,L.1]:=congrArg Prod.fst T
  subst hd
  refine hw n ?_
  simp only [DataW.weights,ht,DataW.weightsEach,List.map_cons,List.map_nil,List.append_nil]
  exact aO _ (aO _ V)
 obtain ⟨ls,S,_,w⟩:=Xm u2 ue G hb f u
 have:g=#[.int .i64 C,.int .i64 E,.slice A len cap]:=by rw [<- Array.toArray_toList (xs:=g),hm,k,s]
 exact ⟨C,E,A,len,cap,ls,by rw [this],S,w⟩
