/- A part. -/
import Derived.Test.YtbgkfnjmcjfokaaGreatDoorG18
import Derived.Test.YtbgkfnjmcjfokaaGreatDoorRows
import Derived.Lib.LaidTab
open Go.Proofs.Tryz
set_option linter.all false
open _root_.Array renaming replicate->bZ
open Bool renaming eq_iff_iff->cM
open _root_.Go.Builtin renaming zeroCells->aX,append_->bJ
open Int renaming toNat_natCast->aC,gcd->aV,ofNat_tdiv->bC,sign_eq_one_of_pos->bO,mul_ne_zero->cL,tdiv->cU,natCast_mul->dD,ofNat_tmod->dF,tdiv_eq_ediv_of_dvd->dK,gcd_natCast_natCast->dM
open List renaming replicate->aE,getElem?_cons_zero->aF,getElem?_cons_succ->aI,length_append->aL,eq_nil_of_length_eq_zero->aO,take_of_length_le->aQ,exists_cons_of_ne_nil->aY,drop_zero->aZ,drop_eq_getElem_cons->bG,getElem?_eq_getElem->bH,take_succ_eq_append_getElem->bN,takeWhile_append_dropWhile->bU,mem_of_mem_take->bX,append_assoc->cH,drop_of_length_le->cK,take_append_drop->cN,length_singleton->cO,length_take->cV,length_cons->cW,getElem_mem->cX,head?_cons->dB,getLast?_singleton->dJ
open Nat renaming pow_le_pow_right->aJ,lt_of_lt_of_le->aR,gcd->aT,sub_zero->bF,div_le_self->bI,mul_one->bK,le_refl->bL,le_trans->cC,gcd_dvd_right->cF,zero_add->cJ,pow_le_pow_left->cP,pow_mul->cY,le_of_dvd->dI
open Option.some renaming injEq->aW
open Rat renaming divInt->cD,lt_iff->cI,num_eq_zero->cZ,add->dE,ceil_eq_neg_floor_neg->dG
open _root_.Go.Value renaming int->aU
open _root_.Go renaming Addr->aK,TypeId->aP,Value->bM,Program->cQ
open _root_.Go.Proofs.YtbgkfnjmcjfokaaGreatDoor renaming FCall->aH,Heap->aN,Priv->bY,SliceT->cT,den_ne->dH
namespace Go.Proofs.YtbgkfnjmcjfokaaGreatDoor
set_option maxRecDepth 20000
open Go
def zb(l:List UInt8):List Int:=l.map fun c=>(c.toNat:Int)
def Gh(l:List UInt8):(zb l).length=l.length:=by simp [zb]
def Zm(a b:List UInt8):zb (a++b)=zb a++zb b:=by simp [zb]
def B9j(l:List UInt8):(zb l).map (aU .u8)=yv l:=by simp [zb,yv]
def A5w:∀ v,v<100->J5[2*v+1]? = some (dch (v%10))/\J5[2*v]? = some (dch (v/10)):=by decide +kernel
def Zy(a:Nat):Int.tmod (a:Int) 100=((a%100:Nat):Int):=(dF a 100).symm
def tm4(a:Nat):Int.tmod (a:Int) 10000=((a%10000:Nat):Int):=(dF a 10000).symm
def tm8(a:Nat):Int.tmod (a:Int) 100000000=((a%100000000:Nat):Int):=(dF a 100000000).symm
def A2q(a:Nat):cU (a:Int) 100=((a/100:Nat):Int):=(bC a 100).symm
def td4(a:Nat):cU (a:Int) 10000=((a/10000:Nat):Int):=(bC a 10000).symm
def td8(a:Nat):cU (a:Int) 100000000=((a/100000000:Nat):Int):=(bC a 100000000).symm
def Gb{a:Nat}(h:a<4294967296):N4 (a:Int)=a:=A7f o o
def Me(a:Nat):(a:Int)*2=((2*a:Nat):Int):=o
def A43(a:Nat):(a:Int)+1=((a+1:Nat):Int):=o
def FBI(g:aN)(b:Nat)(e:aP)(A:Option aK)(pre post:List bM)(N u0 nd u:Nat)(hp:aN):Prop:=
 ∃ (ys:List Int) (t:List UInt8),Win .u8 hp g b e A pre (ys++zb t) post/\ys.length=nd/\nd+t.length=N/\pad N u0=pad nd u++t/\u<10^nd
section
variable {P:cQ} {h g:aN} {K:VP} {A:Option aK} {b:Nat} {e:aP} {pre post:List bM}
def Jy(one:P.cellsOf 5=1/\(P.info? 5).isSome=true){N u0 j u:Nat}(f:FBI g b e A pre post N u0 (j+2) u h){E1 E0 I1 I2:Int}(h1:E1=((2*(u%100)+1:Nat):Int))(h0:E0=((2*(u%100):Nat):Int))(hI1:I1=((j+1:Nat):Int))(hI2:I2=(j:Int)){C:aN->Prop}(hC:∀ h',FBI g b e A pre post N u0 j (u/100) h'->C h'):
 ∃ (t:UInt8),(0<=E1/\J5[E1.toNat]? = some t)/\∃ (t0:UInt8),(0<=E0/\J5[E0.toNat]? = some t0)/\∃ a1,A=some a1/\0<=I1/\I1<((N:Nat):Int)/\wpH P (Instr.storeAt 5 (.pointer (some (Addr.add a1 (I1.toNat*1)))) (Y ((t.toNat:Nat):Int))) (fun _ hp1=>∃ a2,A=some a2/\0<=I2/\I2<((N:Nat):Int)/\wpH P (Instr.storeAt 5 (.pointer (some (Addr.add a2 (I2.toNat*1)))) (Y ((t0.toNat:Nat):Int))) (fun _ hp2=>C hp2) hp1) h:=by
 subst h1 h0 hI1 hI2
 obtain ⟨c,t,w,y,E,i,D⟩:=f
 obtain ⟨n,m⟩:=A5w (u%100) o
 have r:∃ a,A=some a:=by
  rcases w.at_ with h0|h0
  ·simp_all
  grind
 obtain ⟨a,d⟩:=r
 have k:(c++zb t).length=N:=by rw [aL,Gh];omega
 refine ⟨_,⟨o,by exact n⟩,_,⟨o,by exact m⟩,a,d,o,o,?_⟩
 refine w.storeN one d o ?_
 intro z q
 refine ⟨a,d,o,o,?_⟩
 refine q.storeN one d gz0 ?_
 intro p B
 refine hC p ⟨c.take j,[dch (u/10%10),dch (u%10)]++t,?_,gz0,gz0,?_,?_⟩
 ·have x:((c++zb t).set (j+1) ((dch (u%100%10)).toNat:Int)).set j ((dch (u%100/10)).toNat:Int)=c.take j++zb ([dch (u/10%10),dch (u%10)]++t):=by
   have s:c=c.take j++[c[j]'o,c[j+1]'o]:=by
    conv=>lhs;rw [<- cN j c]
    congr 1
    rw [bG o,bG o,cK o]
   have l:(c.take j).length=j:=gz0
   rw [s,show u%100%10=u%10 from o,show u%100/10=u/10%10 from o]
   generalize c[j]'_=y0
   generalize c[j+1]'_=y1
   rw [List.take_append_of_le_length o,aQ (show (c.take j).length<=j from o)]
   generalize c.take j=zs at *
   rw [cH,List.set_append_right _ _ o,List.set_append_right _ _ o,l,Zm]
   simp [zb]
  grind
 ·rw [i,B7u];simp
 grind
end
section
variable {h g:aN} {K:VP} {A:Option aK} {b:Nat} {e:aP} {pre post:List bM}
def Kx:prog.cellsOf 5=1/\(prog.info? 5).isSome=true:=A5s
def C28{N u0 nd x:Nat}(hN:N<=24)(f:FBI g b e A pre post N u0 nd x h)(hn:nd<2)(hK:∀ h',Win .u8 h' g b e A pre (zb (pad N u0)) post->K (.tuple #[]) h'):Fy prog A N K nd x h:=by
 obtain ⟨c,t,w,k,hN,i,u⟩:=f
 refine B4 (fun m=>?_) (fun m=>?_)
 ·obtain rfl:nd=1:=o
  obtain ⟨y,rfl⟩:∃ y,c=[y]:=by
   rcases c with _|⟨y,_|⟨z,r⟩⟩
   ·grind
   ·grind
   grind
  have q:∃ a,A=some a:=by
   rcases w.at_ with n|n
   ·grind
   grind
  obtain ⟨a,j⟩:=q
  refine ⟨a,j,o,o,?_⟩
  refine w.storeN Kx j (by simp) ?_
  intro l p
  refine hK l ?_
  have d:x<10:=o
  have ev:wu8 (N4 (48+(x:Int)))=((dch x).toNat:Int):=by
   rw [A7f o o,A4a o o,Hr d];omega
  rw [ev] at p
  have s:pad 1 x=[dch x]:=by
   rw [Rf,A92 _ o,show x%10=x from o];rfl
  rw [i,s,Zm]
  assumption
 ·obtain rfl:nd=0:=o
  have:c=[]:=aO k
  subst this
  have d:x=0:=o
  refine hK h ?_
  rw [i,A92 _ d]
  assumption
def C27{N u0 nd x:Nat}(hN:N<=24)(f:FBI g b e A pre post N u0 nd x h)(hn:nd<4)(hK:∀ h',Win .u8 h' g b e A pre (zb (pad N u0)) post->K (.tuple #[]) h'):Fz prog A N K nd x h:=by
 have w:x<10000:=by
  obtain ⟨_,_,_,_,_,_,n⟩:=f
  exact aR n (cC (aJ dc (show nd<=4 from o)) dc)
 refine ⟨fun l d=>∃ nd x:Nat,l=[I nd,U32 x]/\FBI g b e A pre post N u0 nd x d/\nd<2,B4 (fun m=>?_) (fun m=>?_),?_⟩
 ·obtain ⟨j,rfl⟩:∃ j,nd=j+2:=⟨nd-2,o⟩
  refine Jy Kx f ?_ ?_ (by rw [B5 o o];omega) (by rw [B5 o o];omega) ?_
  ·simp (disch:=omega) only [Zy,Gb,Me,A43]
  ·simp (disch:=omega) only [Zy,Gb,Me]
  ·intro u i
   refine ⟨j,x/100,?_,i,o⟩
   rw [B5 o o,A2q,Gb o]
   grind
 ·grind
 ·rintro c r d ⟨q,p,s,k,a⟩
  obtain ⟨rfl,rfl⟩:c=(q:Int)/\r=(p:Int):=gz0
  exact C28 hN k a hK
def Ae{u an ac:Nat}{xs:List Int}(w:Win .u8 h g b e A pre xs post)(hn:an=xs.length)(hN:an<=24)(hu:u<10^an)(hu2:u<18446744073709551616)(hK:∀ h',Win .u8 h' g b e A pre (zb (pad an u)) post->K (.tuple #[]) h'):aH prog 243 #[.slice A an ac,U (u:Int)] h K:=by
 refine Qx _ _ _ _ ?_
 refine ⟨fun l d=>∃ a v:Nat,l=[U v,I a]/\FBI g b e A pre post an u a v d/\v<=u,fun l _=>(iAt l 1).toNat,⟨an,u,rfl,⟨xs,[],by simpa [zb] using w,hn.symm,by simp,by simp,hu⟩,bL _⟩,?_⟩
 rintro D i d ⟨a,v,Q,f,R⟩
 obtain ⟨rfl,rfl⟩:D=(v:Int)/\i=(a:Int):=gz0
 have N:a<=an:=by obtain ⟨_,_,_,_,hN,_,_⟩:=f;omega
 refine B4 (fun y=>?_) (fun y=>?_)
 ·obtain ⟨j,rfl⟩:∃ j,a=j+8:=⟨a-8,o⟩
  refine Jy (j:=j+6) Kx f ?_ ?_ (by rw [B5 o o];omega) (by rw [B5 o o];omega) ?_
  ·simp (disch:=omega) only [tm8,tm4,Zy,Gb,Me,A43];omega
  ·simp (disch:=omega) only [tm8,tm4,Zy,Gb,Me];omega
  intro p L
  refine Jy (j:=j+4) Kx L ?_ ?_ (by rw [B5 o o];omega) (by rw [B5 o o];omega) ?_
  ·simp (disch:=omega) only [tm8,tm4,A2q,Gb,Me,A43];omega
  ·simp (disch:=omega) only [tm8,tm4,A2q,Gb,Me];omega
  intro G c
  refine Jy (j:=j+2) Kx c ?_ ?_ (by rw [B5 o o];omega) (by rw [B5 o o];omega) ?_
  ·simp (disch:=omega) only [tm8,Zy,td4,Gb,Me,A43];omega
  ·simp (disch:=omega) only [tm8,Zy,td4,Gb,Me];omega
  intro s n
  refine Jy (j:=j) Kx n ?_ ?_ (by rw [B5 o o];omega) (by rw [B5 o o];omega) ?_
  ·simp (disch:=omega) only [tm8,A2q,td4,Gb,Me,A43];omega
  ·simp (disch:=omega) only [tm8,A2q,td4,Gb,Me];omega
  intro O E
  have M:B9 (((j+8:Nat):Int)-8)=(j:Int):=by rw [B5 o o];omega
  have B:C6 (cU (v:Int) 100000000)=((v/100/100/100/100:Nat):Int):=by
   rw [td8,C3 o o];omega
  rw [M,B]
  exact ⟨⟨j,_,rfl,E,o⟩,by simp only [iAt,aF,aI];omega⟩
 ·have z:v<100000000:=by
   obtain ⟨_,_,_,_,_,_,hu⟩:=f
   exact aR hu (cC (aJ dc (show a<=8 from o)) dc)
  refine ⟨fun l d=>∃ a x:Nat,l=[I a,U32 x]/\FBI g b e A pre post an u a x d/\a<4,B4 (fun p=>?_) (fun p=>?_),?_⟩
  ·obtain ⟨j,rfl⟩:∃ j,a=j+4:=⟨a-4,o⟩
   refine Jy (j:=j+2) Kx f ?_ ?_ (by rw [B5 o o];omega) (by rw [B5 o o];omega) ?_
   ·simp (disch:=omega) only [tm4,Zy,Gb,Me,A43];omega
   ·simp (disch:=omega) only [tm4,Zy,Gb,Me];omega
   intro G c
   refine Jy (j:=j) Kx c ?_ ?_ (by rw [B5 o o];omega) (by rw [B5 o o];omega) ?_
   ·simp (disch:=omega) only [tm4,A2q,Gb,Me,A43];omega
   ·simp (disch:=omega) only [tm4,A2q,Gb,Me];omega
   intro s n
   refine ⟨j,v/100/100,?_,n,o⟩
   rw [B5 o o,Gb o,td4,Gb o]
   grind
  ·exact ⟨a,v,by rw [Gb o],f,o⟩
  ·rintro m H C ⟨r,q,F,c,k⟩
   obtain ⟨rfl,rfl⟩:m=(r:Int)/\H=(q:Int):=gz0
   exact C27 hN c k hK
end
def Sy{P:cQ}{h:aN}{l:List UInt8}{m:Nat}{ys:List bM}(hy:ys=yv l)(hm:m=l.length){K:Array bM->aN->Prop}(x:K ys.toArray h):wpH P (Builtin.firstCells 1 m (.string (bs l))) K h:=by
 show K _ h
 have e:((bs l).extract 0 l.length).data.map (fun b=>aU .u8 b.toNat)=(yv l).toArray:=by
  apply Array.toList_inj.1
  simp [bs,yv]
 grind
def To{P:cQ}{t e e' ty:aP}{z:bM}{bytes:Nat}(st:cT P t e z 1 bytes){h g:aN}{A:Option aK}{n c:Nat}{xs:List bM}(p:bY h g e' 1 A n c xs)
 {B:Option aK} {m d:Nat} {ys:List bM} (hy:ys.length=m) (hc:SlV h B ys) (h1:∀ v∈ys,Jz v=true) (hb:(2*(n+m)+192)*bytes<=281474976710656) (hm:n+m<=9223372036854775807) {K:VP}
 (x1:n+m<=c->∀ h',bY h' g e' 1 A (n+m) c (xs++ys)->K (.slice A (n+m) c) h') (x2:c<n+m->∀ A' c' h' g',g.le g'->bY h' g' e 1 A' (n+m) c' (xs++ys)->K (.slice A' (n+m) c') h'):
 wpH P (bJ #[t,t] ty #[.slice A n c,.slice B m d]) K h:=by
 obtain ⟨i,y,X,L,x⟩:=st.parts
 have S:=p.1
 unfold bJ
 simp only [List.getElem?_toArray,aF,aI,C1,E4 st.und,L4 y,I4,Bool.false_eq_true,if_false,Builtin.lenOf,L,Bool.not_false,if_true]
 by_cases k:n+m<=c
 ·simp only [k,if_true,C1]
  refine O6 o hc ?_
  rcases p.2.2 with ⟨F,T⟩|⟨b,O,W,Q,hh,D,G⟩
  ·have R:n=0:=o
   subst R;subst T
   have H:ys=[]:=aO o
   have s:K (.slice A (0+m) c) h:=x1 k h ⟨gz0,o,.inl ⟨F,rfl⟩⟩
   subst H
   cases A with
   | none=>exact s
   | some a=>exact s
  ·subst W
   simp only [C1,D4,cJ]
   rw [hh]
   rw [bK] at D G ⊢
   refine I3 ys.toArray.toList n 0 O ?_ (fun v hv=>h1 v o) ?_
   ·grind
   ·refine x1 k _ ⟨gz0,k,.inr ⟨b,_,rfl,Q,rfl,?_,?_⟩⟩
    ·simp only [F2,aL,cV,List.length_drop,D,hy];omega
    ·unfold F2
     grind
 ·have r:c<n+m:=o
  simp only [k,if_false,C1,I8 y,x]
  have M:=Oe r
  have aa:Builtin.nextslicecap (n+m) c*bytes<=281474976710656:=cC (Nat.mul_le_mul_right _ M) hb
  rw [iN (by rintro ⟨h',_⟩;simp only [IntKind.max,IntKind.signed,IntKind.bits] at h';omega)]
  simp only [C1,I8 y,x]
  rw [iN o]
  simp only [I4,C1]
  refine Ik rfl fun tt=>?_
  simp only [Eo,I8 y]
  have w:xs=[]\/∃ a,A=some a/\∀ j v,xs[j]? = some v->h.cell? (a.add j)=some v:=p.slV
  refine O6 p.1 w ?_
  refine O6 o hc ?_
  simp only [P7 y X,Y8]
  intro b l
  have C:∃ q,(Question.appendCap (n+m) c e).cut tt=q/\n+m<=q:=⟨_,rfl,by simp only [Question.cut];omega⟩
  obtain ⟨q,N,E⟩:=C
  rw [N]
  have u:=p.le
  refine x2 r _ q _ h u ⟨gz0,E,.inr ⟨b,xs++ys++(aX z.cells (q-(n+m))).toList,rfl,l,?_,?_,?_⟩⟩
  ·congr 1;simp
  ·have V:(aX z.cells (q-(n+m))).toList.length=q-(n+m):=by simp [aX,st.cells]
   grind
  grind
def A70{P:cQ}{t e e' ty t2:aP}{z:bM}{bytes:Nat}(st:cT P t e z 1 bytes)(hu:P.underlying t2=some .string){h g:aN}{A:Option aK}{n c:Nat}{xs:List bM}(p:bY h g e' 1 A n c xs)
 {m:Nat} {l:List UInt8} {ys:List bM} (hly:ys=yv l) (hm0:m=l.length) (hy:ys.length=m) (h1:∀ v∈ys,Jz v=true) (hb:(2*(n+m)+192)*bytes<=281474976710656) (hm:n+m<=9223372036854775807) {K:VP}
 (x1:n+m<=c->∀ h',bY h' g e' 1 A (n+m) c (xs++ys)->K (.slice A (n+m) c) h') (x2:c<n+m->∀ A' c' h' g',g.le g'->bY h' g' e 1 A' (n+m) c' (xs++ys)->K (.slice A' (n+m) c') h'):
 wpH P (bJ #[t,t2] ty #[.slice A n c,.string (bs l)]) K h:=by
 obtain ⟨i,y,W,H,x⟩:=st.parts
 have R:=p.1
 unfold bJ
 simp only [List.getElem?_toArray,aF,aI,C1,E4 st.und,E4 hu,L4 y,I4,Bool.false_eq_true,if_false,Builtin.lenOf,H,Bool.not_false,if_true,P3,<- hm0]
 by_cases d:n+m<=c
 ·simp only [d,if_true,C1]
  refine Sy hly hm0 ?_
  rcases p.2.2 with ⟨E,S⟩|⟨b,N,V,O,X,C,F⟩
  ·have Q:n=0:=o
   subst Q;subst S
   have G:ys=[]:=aO o
   have s:K (.slice A (0+m) c) h:=x1 d h ⟨gz0,o,.inl ⟨E,rfl⟩⟩
   subst G
   cases A with
   | none=>exact s
   | some a=>exact s
  ·subst V
   simp only [C1,D4,cJ]
   rw [X]
   rw [bK] at C F ⊢
   refine I3 ys.toArray.toList n 0 N ?_ (fun v hv=>h1 v o) ?_
   ·grind
   ·refine x1 d _ ⟨gz0,d,.inr ⟨b,_,rfl,O,rfl,?_,?_⟩⟩
    ·simp only [F2,aL,cV,List.length_drop,C,hy];omega
    ·unfold F2
     grind
 ·have r:c<n+m:=o
  simp only [d,if_false,C1,I8 y,x]
  have L:=Oe r
  have aa:Builtin.nextslicecap (n+m) c*bytes<=281474976710656:=cC (Nat.mul_le_mul_right _ L) hb
  rw [iN (by rintro ⟨h',_⟩;simp only [IntKind.max,IntKind.signed,IntKind.bits] at h';omega)]
  simp only [C1,I8 y,x]
  rw [iN o]
  simp only [I4,C1]
  refine Ik rfl fun tt=>?_
  simp only [Eo,I8 y]
  have w:xs=[]\/∃ a,A=some a/\∀ j v,xs[j]? = some v->h.cell? (a.add j)=some v:=p.slV
  refine O6 p.1 w ?_
  refine Sy hly hm0 ?_
  simp only [P7 y W,Y8]
  intro b k
  have B:∃ q,(Question.appendCap (n+m) c e).cut tt=q/\n+m<=q:=⟨_,rfl,by simp only [Question.cut];omega⟩
  obtain ⟨q,M,D⟩:=B
  rw [M]
  have u:=p.le
  refine x2 r _ q _ h u ⟨gz0,D,.inr ⟨b,xs++ys++(aX z.cells (q-(n+m))).toList,rfl,k,?_,?_,?_⟩⟩
  ·congr 1;simp
  ·have T:(aX z.cells (q-(n+m))).toList.length=q-(n+m):=by simp [aX,st.cells]
   grind
  grind
def Xu(l:List UInt8):∀ v∈yv l,Jz v=true:=by
 intro v a
 simp only [yv,List.mem_map] at a
 obtain ⟨c,_,rfl⟩:=a
 rfl
def T7{P:cQ}{t:aP}{z v:bM}(hz:(P.info? t).map (fun i=>i.zero)=some (some z)){K:VP}{h:aN}(x:∀ b,h b=none->K (.pointer (some ⟨b,0,none⟩)) (h.put b (.cells z.cells t))):wpH P (Instr.alloc t true v) K h:=by
 cases hi:P.info? t with
 | none=>rw [hi] at hz;cases hz
 | some i=>
  rw [hi] at hz
  simp only [Option.map_some,aW] at hz
  unfold Instr.alloc
  simp only [C1,P7 hi hz]
  exact x
def A5i:(prog.info? 298).map (fun i=>i.zero)=some (some (.agg (bZ 24 (.int .u8 0)))):=by kernel_rfl
def Gp(h:aN):Prop:=∀ k,k<20->h.cell? (Addr.add ⟨0,0,none⟩ (k*1))=some (U ((10^k:Nat):Int))
def Gp.mono{h h':aN}(g:Gp h)(l:h.le h'):Gp h':=fun k a=>B7 l (g k a)
section
variable {h g:aN} {K:VP}
def Vf{i:Nat}(hi:i<100)(hK:K (.string (bs (P5 i))) h):aH prog 241 #[I i] h K:=by
 refine B1p _ ?_
 have key:∀ i:Nat,i<100->(i<10->Yf.extract i (i+1)=bs (P5 i))/\(¬ i<10->J5.extract (2*i) (2*i+2)=bs (P5 i)):=by
  intro i hi
  revert i
  decide +kernel
 obtain ⟨b,c⟩:=key i hi
 refine B4 (fun d=>?_) (fun d=>?_)
 ·have a:B9 ((i:Int)+1)=((i+1:Nat):Int):=by rw [B5 o o];omega
  rw [a,aC,aC,b o]
  exact ⟨⟨o,by show _<=((36:Nat):Int);omega⟩,⟨o,o⟩,hK⟩
 ·have a:B9 ((i:Int)*2)=((2*i:Nat):Int):=by rw [B5 o o];omega
  have e:B9 (((2*i:Nat):Int)+2)=((2*i+2:Nat):Int):=by rw [B5 o o];omega
  rw [a,e,aC,aC,c o]
  exact ⟨⟨o,by show _<=((200:Nat):Int);omega⟩,⟨o,o⟩,hK⟩
def Da{d:Nat}(gp:Gp h)(h0:d≠0)(hd:d<18446744073709551616)(hK:K (I ((dd d).length:Int)) h):aH prog 242 #[U (d:Int)] h K:=by
 refine (fnk func242) ?_
 have e:V6 d<=64:=Hx hd
 obtain ⟨_,_,c⟩:=B5q (V6 d) o
 refine Yh hd ⟨_,rfl,(fnk func290) ?_⟩
 have b:Int.fdiv (B9 ((V6 d:Int)*78913)) (2^(min ((18:Int)).toNat 64))=((ndg (V6 d):Nat):Int):=by
  rw [show (2:Int)^(min ((18:Int)).toNat 64)=262144 from dc,Int.fdiv_eq_ediv_of_nonneg _ dc,B5 o o]
  rfl
 rw [b]
 refine ⟨_,rfl,⟨o,o⟩,_,by rw [aC];exact gp _ o,(fnk func291) ?_⟩
 rw [C1q h0 hd] at hK
 refine B4 (fun a=>⟨_,rfl,?_⟩) (fun a=>⟨_,rfl,?_⟩)
 ·rw [iP o] at hK
  rw [B5 o o]
  exact hK
 ·rw [iN o] at hK
  rw [B5 o o]
  exact hK
def Ce{e':aP}{A:Option aK}{n c i:Nat}{l:List UInt8}(gp:Gp h)(p:bY h g e' 1 A n c (yv l))(hi:i<18446744073709551616)(hn:n<=1000000000000)
 (hK:∀ A' c' e2 h' g',g.le g'->bY h' g' e2 1 A' (n+(P5 i).length) c' (yv (l++P5 i))->(n+(P5 i).length<=c->A'=A/\c'=c/\e2=e')->(e'=5->e2=5)->K (.slice A' (n+(P5 i).length:Nat) c') h'):aH prog 245 #[.slice A n c,U (i:Int),I 10] h K:=by
 refine (fnk func245 (wr:=[243])) ?_
 refine C8 (fun _=>?_) (fun e=>absurd rfl e)
 have y:(P5 i).length<=20:=(V5 dc).2 oo
 refine B4 (fun L=>?_) (fun L=>?_)
 ·rw [B5 oo oo]
  refine Vf oo ⟨_,rfl,?_⟩
  refine A70 Gv Z1 p (l:=P5 i) rfl rfl (Gj _) (Xu _) oo oo ?_ ?_
  ·intro w h' a
   rw [<- Aj] at a
   exact ⟨_,_,_,rfl,hK _ _ _ _ _ (B0 _) a (fun _=>⟨rfl,rfl,rfl⟩) id⟩
  ·intro w A' c' h' g' E a
   rw [<- Aj] at a
   grind
 ·refine T7 A5i ?_
  intro b d
  have M:(Value.agg (bZ 24 (.int .u8 0))).cells=((aE 24 (0:Int)).map (aU .u8)).toArray:=by rfl
  rw [M]
  have G:Win .u8 (h.put b (.cells ((aE 24 (0:Int)).map (aU .u8)).toArray 298)) h b 298 (some ⟨b,0,none⟩) [] (aE 24 (0:Int)) []:=⟨d,by simp,.inr rfl⟩
  generalize (h.put b (.cells ((aE 24 (0:Int)).map (aU .u8)).toArray 298))=h1' at *
  refine ⟨_,rfl,Da (gp.mono G.le) oo hi ⟨_,rfl,?_⟩⟩
  have j:P5 i=dd i:=Cr oo
  rw [j] at y hK
  refine ⟨⟨oo,oo⟩,?_⟩
  rw [aC,bF]
  have C:=G.sub (l:=0) (m:=(dd i).length) (c:=24) oo gz0 (by simp)
  have x:((aE 24 (0:Int)).drop 0).take ((dd i).length-0)=aE (dd i).length 0:=by
   grind
  rw [x] at C
  have q:i<10^(dd i).length:=U9.1 (bL _)
  refine Ae C (by simp) oo q hi ?_
  intro D B
  refine ⟨rfl,⟨oo,oo⟩,?_⟩
  have z:pad (dd i).length i=dd i:=by simp [pad]
  rw [z] at B
  have N:SlV D (U3 (some ⟨b,0,none⟩) 24 0 1) (yv (dd i)):=by
   have:=B.sl
   unfold SlI at this
   rw [B9j] at this
   exact this
  have u:=B.eq
  obtain ⟨o,ho⟩:∃ o,D=h.put b o:=⟨_,u⟩
  subst ho
  have H:=p.put d o
  have s:g.le (g.put b o):=by
   intro k O F
   have r:k≠b:=by
    rintro rfl
    rw [p.le k O F] at d;cases d
   rw [B6 _ _ r];exact F
  refine To Gv H (Gj _) N (Xu _) oo oo ?_ ?_
  ·intro w h' a
   rw [<- Aj] at a
   grind
  ·intro w A' c' h' g' E a
   rw [<- Aj] at a
   exact ⟨_,_,_,rfl,hK _ _ _ _ _ (A0 s E) a (fun e=>oo) (fun _=>rfl)⟩
end
structure Ext (g:aN) (e':aP) (A:Option aK) (n c:Nat) (l t:List UInt8) (A':Option aK) (n' c':Nat) (e2:aP) (g' h':aN):Prop where
 le:g.le g'
 priv:bY h' g' e2 1 A' n' c' (yv (l++t))
 len:n'=n+t.length
 fit:n+t.length<=c->A'=A/\c'=c/\e2=e'
 tag:e'=5->e2=5
def Ext.trans{g g1 g2 h1 h2:aN}{e' e1 e2:aP}{A A1 A2:Option aK}{n c n1 c1 n2 c2:Nat}{l t s:List UInt8}(x:Ext g e' A n c l t A1 n1 c1 e1 g1 h1)(y:Ext g1 e1 A1 n1 c1 (l++t) s A2 n2 c2 e2 g2 h2):Ext g e' A n c l (t++s) A2 n2 c2 e2 g2 h2:=by
 refine ⟨A0 x.le y.le,?_,?_,?_,fun e=>y.tag (x.tag e)⟩
 ·have:=y.priv;grind
 ·rw [y.len,x.len,aL];omega
 ·intro a
  rw [aL] at a
  obtain ⟨rfl,rfl,rfl⟩:=x.fit o
  have b:=x.len
  exact y.fit o
section
variable {h g:aN} {K:VP} {A:Option aK} {n c:Nat} {e':aP} {l:List UInt8}
def Fq{i:Nat}(gp:Gp h)(p:bY h g e' 1 A n c (yv l))(hi:i<18446744073709551616)(hn:n<=1000000000000)
 (hK:∀ A' n' c' e2 g' h',Ext g e' A n c l (P5 i) A' n' c' e2 g' h'->K (.slice A' n' c') h'):aH prog 246 #[.slice A n c,U (i:Int),I 10] h K:=by
 refine (fnk func246) ?_
 refine Ce gp p hi hn ?_
 intro A' c' e2 h' g' b d a e
 exact ⟨_,_,_,rfl,hK _ _ _ _ _ _ ⟨b,d,rfl,a,e⟩⟩
def Ew{ch:UInt8}{v:Int}(hv:v=(ch.toNat:Int))(p:bY h g e' 1 A n c (yv l))(hn:n<=1000000000000){KK:Option aK->Nat->Nat->aN->Prop}
 (x:∀ A' n' c' e2 g' h',Ext g e' A n c l [ch] A' n' c' e2 g' h'->KK A' n' c' h'):
 wpH prog (Instr.buildSlice 179 1 #[(0,Y v)]) (fun v1 hp1=>∃ (A1:Option aK) (n1 c1:Nat),v1= .slice A1 n1 c1/\wpH prog (bJ #[179,179] 179 #[.slice A n c,.slice A1 n1 c1]) (fun v2 hp2=>∃ (A2:Option aK) (n2 c2:Nat),v2= .slice A2 n2 c2/\KK A2 n2 c2 hp2) hp1) h:=by
 subst hv
 refine Y5 Gv rfl ?_
 intro b a
 refine ⟨_,_,_,rfl,?_⟩
 have w:=p.put a (.cells #[Y (ch.toNat:Int)] 5)
 have d:g.le (g.put b (.cells #[Y (ch.toNat:Int)] 5)):=by
  intro k z r
  have q:k≠b:=by
   rintro rfl
   rw [p.le k z r] at a;cases a
  rw [B6 _ _ q];exact r
 have y:SlV (h.put b (.cells #[Y (ch.toNat:Int)] 5)) (some ⟨b,0,none⟩) (yv [ch]):=by
  refine .inr ⟨_,rfl,fun j u C=>?_⟩
  rw [D4,C4]
  match j with
  | 0=>assumption
  | j+1=>assumption
 refine To Gv w (m:=1) (ys:=yv [ch]) rfl y (Xu _) o o ?_ ?_
 ·intro s h' i
  rw [<- Aj] at i
  exact ⟨_,_,_,rfl,x _ _ _ _ _ _ ⟨d,i,rfl,fun _=>⟨rfl,rfl,rfl⟩,id⟩⟩
 ·intro s A' c' h' g' B i
  rw [<- Aj] at i
  exact ⟨_,_,_,rfl,x _ _ _ _ _ _ ⟨A0 d B,i,rfl,fun e=>gz0,fun _=>rfl⟩⟩
def Rb{i:Int}(h:i<0):Dn i=[45]++P5 i.natAbs:=by unfold Dn;grind
def Ky{i:Int}(h:¬ i<0):Dn i=P5 i.natAbs:=by unfold Dn;grind
def Jn{i:Int}(gp:Gp g)(p:bY h g e' 1 A n c (yv l))(h1: -9223372036854775808<=i)(h2:i<9223372036854775808)(hn:n<=100000000000)
 (hK:∀ A' n' c' e2 g' h',Ext g e' A n c l (Dn i) A' n' c' e2 g' h'->K (.slice A' n' c') h'):aH prog 108 #[.slice A n c,I i,I 10] h K:=by
 refine (fnk func108) ?_
 refine (fnk func184) ?_
 refine B4 (fun m=>?_) (fun m=>?_)
 ·rw [Rb m] at hK
  refine Ew (ch:=45) rfl p o ?_
  intro A1 x c1 w u s a
  have e:C6 (0-C6 i)=((i.natAbs:Nat):Int):=by rw [J0,J0];omega
  rw [e]
  refine Ce (gp.mono (A0 a.le a.priv.le)) a.priv o (by have:=a.len;grind) ?_
  intro A2 c2 e2 q r d j b k
  exact ⟨_,_,_,rfl,_,_,_,rfl,hK _ _ _ _ _ _ (a.trans ⟨d,j,rfl,b,k⟩)⟩
 ·rw [Ky m] at hK
  have e:C6 i=((i.natAbs:Nat):Int):=by rw [J0];omega
  rw [e]
  refine Ce (gp.mono p.le) p o o ?_
  intro A2 c2 e2 q r d j b k
  exact ⟨_,_,_,rfl,_,_,_,rfl,hK _ _ _ _ _ _ ⟨d,j,rfl,b,k⟩⟩
def Zp{b:Nat}{e:aP}{B:Option aK}{pre post:List bM}{s:List UInt8}(w:Win .u8 h g b e B pre (zb s) post):SlV h B (yv s):=by
 have:=w.sl
 unfold SlI at this
 rw [B9j] at this
 exact this
def Dd{i:Int}(gp:Gp h)(h1: -9223372036854775808<=i)(h2:i<9223372036854775808)(hK:K (.string (bs (Dn i))) h):aH prog 107 #[I i,I 10] h K:=by
 refine FCall.pure ((fnk func107) ?_)
 refine (fnk func183 (cs:=[(3,[17],[],[.bool false])]) (wr:=[243])) ?_
 refine C8 (fun _=>?_) (fun e=>absurd rfl e)
 refine ⟨fun L n=>L=[.bool (decide (0<=i/\i<100))]/\n=h,B4 (fun p=>⟨by simp [p],rfl⟩) (fun p=>⟨by simp [p],rfl⟩),?_⟩
 rintro x n ⟨Q,rfl⟩
 obtain rfl:x=decide (0<=i/\i<100):=gz0
 refine B4 (fun p=>?_) (fun p=>?_)
 ·obtain ⟨k,rfl⟩:∃ k:Nat,i=k:=⟨i.toNat,o⟩
  refine Vf o ⟨_,rfl,⟨_,rfl,B0 _,?_⟩⟩
  assumption
 ·refine T7 A5i ?_
  intro b H
  have M:(Value.agg (bZ 24 (.int .u8 0))).cells=((aE 24 (0:Int)).map (aU .u8)).toArray:=by rfl
  rw [M]
  have s:Win .u8 (n.put b (.cells ((aE 24 (0:Int)).map (aU .u8)).toArray 298)) n b 298 (some ⟨b,0,none⟩) [] (aE 24 (0:Int)) []:=⟨H,by simp,.inr rfl⟩
  generalize (n.put b (.cells ((aE 24 (0:Int)).map (aU .u8)).toArray 298))=hp1 at *
  refine ⟨_,rfl,?_⟩
  obtain ⟨u,hu⟩:∃ u:Nat,u=i.natAbs:=⟨_,rfl⟩
  have a:u≠0:=o
  have B:P5 u=dd u:=Cr a
  have O:(dd u).length<=20:=U9.2 o
  have D:B9 (1+(((dd u).length:Nat):Int))=((1+(dd u).length:Nat):Int):=by rw [B5 o o];omega
  have w:=s.sub (l:=1) (m:=1+(dd u).length) (c:=24) o gz0 (by simp)
  have A:((aE 24 (0:Int)).drop 1).take (1+(dd u).length-1)=aE (dd u).length 0:=by
   grind
  rw [A] at w
  have g:u<10^(dd u).length:=U9.1 (bL _)
  have r:pad (dd u).length u=dd u:=by simp [pad]
  have j:1+(dd u).length-1=(dd u).length:=o
  refine B4 (fun q=>?_) (fun q=>?_)
  ·rw [Rb q,<- hu,B] at hK
   have e:C6 (0-C6 i)=(u:Int):=by rw [J0,J0];omega
   rw [e]
   refine Da (gp.mono s.le) a o ⟨_,rfl,?_⟩
   dsimp only;rw [D,aC]
   refine ⟨⟨o,o⟩,⟨o,o⟩,?_⟩
   rw [show ((1:Int)).toNat=1 from rfl,j]
   refine Ae w (by simp) o g o ?_
   intro z d
   rw [r] at d
   refine ⟨rfl,B4 (fun _=>?_) (fun y=>absurd q y)⟩
   have G:=s.whole (l:=1) (m:=1+(dd u).length) o gz0 (by rw [Gh];omega) d
   refine ⟨⟨o,o⟩,?_⟩
   rw [show ((0:Int)).toNat=0 from rfl]
   refine G.storeN Kx rfl (by simp) ?_
   intro N C
   refine ⟨⟨o,o⟩,?_⟩
   have E:=C.sub (l:=0) (m:=1+(dd u).length) (c:=24) o (by simp [Gh];omega) (by simp [Gh];omega)
   have F:((((aE 24 (0:Int)).take 1++zb (dd u)++(aE 24 (0:Int)).drop (1+(dd u).length)).set 0 45).drop 0).take (1+(dd u).length-0)=zb ([45]++dd u):=by
    rw [aZ,List.take_replicate,show min 1 24=1 from rfl,show aE 1 (0:Int)=[0] from rfl,cH,List.singleton_append,List.set_cons_zero,bF,Nat.add_comm 1,List.take_succ_cons,List.take_left' (Gh _)]
    rfl
   rw [F] at E
   refine Ld Gv.und Dm Z1 (Zp E) gz0 ⟨_,rfl,_,rfl,?_,hK⟩
   exact C.le
  ·rw [Ky q,<- hu,B] at hK
   have e:C6 i=(u:Int):=by rw [J0];omega
   rw [e]
   refine Da (gp.mono s.le) a o ⟨_,rfl,?_⟩
   dsimp only;rw [D,aC]
   refine ⟨⟨o,o⟩,⟨o,o⟩,?_⟩
   rw [show ((1:Int)).toNat=1 from rfl,j]
   refine Ae w (by simp) o g o ?_
   intro z d
   rw [r] at d
   refine ⟨rfl,B4 (fun y=>absurd y q) (fun _=>?_)⟩
   refine ⟨⟨o,o⟩,⟨o,o⟩,?_⟩
   exact Ld Gv.und Dm Z1 (Zp d) rfl ⟨_,rfl,_,rfl,d.le,hK⟩
def Ut{s q:List UInt8}(hK:K (.tuple #[.string (bs (if q <+: s then s.drop q.length else s)),.bool (decide (q <+: s))]) h):aH prog 117 #[.string (bs s),.string (bs q)] h K:=by
 refine (fnk func117) ?_
 refine (fnk func186) ?_
 have b:aH prog 248 #[.string (bs s),.string (bs q)] h (fun r b=>r= .bool (decide (q <+: s))/\b=h):=by
  refine (fnk func248) ?_
  simp only [P3]
  refine B4 (fun a=>?_) (fun a=>?_)
  ·refine ⟨⟨o,o⟩,?_,trivial⟩
   rw [aC,T5,Na]
   congr 1
   rw [decide_eq_decide,aZ,bF,List.prefix_iff_eq_take]
   exact eq_comm
  grind
 refine b.mono ?_
 rintro r c ⟨rfl,rfl⟩
 refine ⟨_,rfl,Br.not (B4 (fun a=>?_) (fun a=>?_))⟩
 ·rw [iP a,decide_eq_true a] at hK
  have:=a.length_le
  simp only [P3]
  refine ⟨⟨o,o⟩,_,_,rfl,?_⟩
  rw [aC,T5,aQ gz0]
  exact hK
 grind
end
abbrev cB:Int:=10000000000000000000
section
variable {h g:aN} {K:VP} {A B:Option aK} {ac bc:Nat}
def C2x{Invv:LP}{muv:LN}{WA CA:Option aK}{wn wc cn cc:Nat}{us:List Int}{hp1 g1:aN}(p:Pw hp1 g1 WA wn wc us)(hne:us≠[])(hwn:wn=us.length)(du:Dig b64 us)(hl:wn<=100000000)
 (hK:∀ (ws:List Int) (m:Nat) (r:Int) (hp2:aN),Pw hp2 g1 WA m wc (ws.take m)->m=(ws.take m).length->m<=wn->Norm (ws.take m)->Dig b64 (ws.take m)->val b64 us=val b64 (ws.take m)*cB+r->(0<=r/\r<cB)->
  wpH prog (Instr.buildSlice 74 1 #[(0,U r)]) (fun v hp6=>∃ (t44A:Option aK) (t44n:Nat) (t44c:Nat),v= .slice t44A t44n t44c/\wpH prog (bJ #[74,74] 74 #[.slice CA cn cc,.slice t44A t44n t44c]) (fun v1 hp7=>∃ (t45A:Option aK) (t45n:Nat) (t45c:Nat),v1= .slice t45A t45n t45c/\Invv [.slice WA m wc,.slice t45A t45n t45c] hp7/\muv [.slice WA m wc,.slice t45A t45n t45c] hp7<muv [.slice WA wn wc,.slice CA cn cc] hp1) hp6) hp2):
 Ii prog Invv muv WA wn wc CA cn cc hp1:=by
 obtain ⟨b,l,H,V⟩:=El p hne
 refine ⟨fun s G=>∃ (k:Nat) (r:Int) (ws:List Int),s=[U r,I ((k:Int)-1)]/\k<=wn/\(0<=r/\r<cB)/\ws.length=us.length/\Dig b64 ws/\Win .u64 G g1 b 194 WA [] ws l/\ws.take k=us.take k/\val b64 (us.drop k)=val b64 (ws.drop k)*cB+r,fun s _=>(iAt s 1+1).toNat,⟨wn,0,us,by rw [B5 o o],o,dc,rfl,du,H,rfl,by rw [cK o];rfl⟩,?_⟩
 rintro c i hp2 ⟨k,r,ws,T,R,q,D,n,w,d,O⟩
 obtain ⟨rfl,rfl⟩:c=r/\i=(k:Int)-1:=gz0
 refine B4 (fun F=>?_) (fun F=>?_)
 ·obtain ⟨j,rfl⟩:∃ j,k=j+1:=⟨k-1,o⟩
  have e:((j+1:Nat):Int)-1=(j:Int):=o
  rw [e]
  have N:=Q4 n j
  refine w.sl.load o o o ?_
  rw [aC]
  refine Rh (y:=10000000000000000000) q N dc ⟨_,_,rfl,?_⟩
  have L:us.getD j 0=ws.getD j 0:=by
   have M:(ws.take (j+1)).getD j 0=(us.take (j+1)).getD j 0:=by rw [d]
   grind
  generalize hx:ws.getD j 0=x at *
  have C:0<=c/\c<10000000000000000000:=q
  have E:0<=(c*18446744073709551616+x)/10000000000000000000/\(c*18446744073709551616+x)/10000000000000000000<18446744073709551616:=o
  obtain ⟨a,z,_⟩:=SlV.at w.sl (i:=j) gz0
  refine ⟨a,z,o,o,w.storeN F8 z o ?_⟩
  intro S A
  rw [B5 o o]
  refine ⟨⟨j,_,_,rfl,o,gz0,gz0,n.set E,A,?_,?_⟩,by simp only [iAt,aF,aI];omega⟩
  ·rw [List.take_set_of_le o]
   have M:=congrArg (List.take j) d
   grind
  ·rw [Fc o,Ra b64 o,O,L]
   simp only [val]
   grind
 ·obtain rfl:k=0:=o
  rw [show wn=ws.length from o] at hK ⊢
  refine Dk w.sl o o ?_
  intro m u Q B
  refine ⟨_,_,_,rfl,?_⟩
  have g:ws≠[]:=gz0
  exact hK ws m c hp2 (w.priv g o u) gz0 u Q (n.take m) gz0 q
end
def nv:List Nat->Nat
 | []=>0
 | c::r=>c+10^19*nv r
def A98(ns:List Nat)(c:Nat):((nv (ns++[c]):Nat):Int)=(nv ns:Int)+cB^ns.length*(c:Int):=by
 induction ns with
 | nil=>simp [nv]
 | cons d r ih=>
  have e:((10^19:Nat):Int)=cB:=dc
  simp only [List.cons_append,nv,cW,Int.pow_succ,Int.natCast_add,dD,ih,e]
  grind
def C4r{ns:List Nat}(h:∀ c∈ns,c<10^19):nv ns<10^(19*ns.length):=by
 induction ns with
 | nil=>simp [nv]
 | cons d r ih=>
  have a:=h d (by simp)
  simp only [nv,cW]
  grind
def C4q{ns:List Nat}(hne:ns≠[])(h:ns.getLast? ≠ some 0):nv ns≠0:=by
 induction ns with
 | nil=>grind
 | cons d r ih=>
  cases r with
  | nil=>simp at h;assumption
  | cons e s=>
   have:=ih (by simp) (by assumption)
   simp only [nv] at this ⊢
   omega
def B3e{c:Nat}:aE (19-(P5 c).length) 48++P5 c=pad 19 c:=by
 unfold P5 pad
 split
 ·rename_i h;subst h;rw [N9];rfl
 ·rfl
def A93{c w:Nat}(h:c≠0):aE (w-(P5 c).length) 48++P5 c=pad w c:=by
 unfold P5 pad;grind
def A65{w n k:Nat}(h:n<10^k):(pad w n).length<=w+k:=by
 unfold pad
 have:=U9.2 h
 grind
def A77(W:Nat)(ns:List Nat)(k:Nat):List UInt8:=if k<ns.length then pad (W-19*k) (nv (ns.drop k)) else []
def B2c{W:Nat}{ns:List Nat}(h:∀ c∈ns,c<10^19)(k:Nat):(A77 W ns k).length<=W+19*ns.length:=by
 unfold A77
 split
 ·have:=A65 (w:=W-19*k) (C4r (ns:=ns.drop k) fun c a=>h c (List.mem_of_mem_drop a))
  grind
 ·simp
def A7t{W:Nat}{ns:List Nat}(hb:∀ c∈ns,c<10^19)(ht:ns.getLast? ≠ some 0){j:Nat}(hj:j<ns.length):A77 W ns j=A77 W ns (j+1)++(aE ((if j+1=ns.length then max (P5 ns[j]).length (W-19*j) else 19)-(P5 ns[j]).length) 48++P5 ns[j]):=by
 have e:ns.drop j=ns[j]::ns.drop (j+1):=bG hj
 unfold A77
 rw [iP hj,e]
 by_cases h:j+1=ns.length
 ·rw [iN o,iP h,List.nil_append,cK o]
  have a:ns[j]≠0:=by
   grind
  rw [show max (P5 ns[j]).length (W-19*j)-(P5 ns[j]).length=(W-19*j)-(P5 ns[j]).length from o,A93 a]
  simp [nv]
 ·rw [iP o,iN h,B3e]
  have d:nv (ns.drop (j+1))≠0:=by
   apply C4q
   ·intro b;have:=congrArg List.length b;grind
   grind
  have:=A0v (w:=W-19*j) (h:=nv (ns.drop (j+1))) (l:=ns[j]) (k:=19) (hb _ (cX hj)) (.inl d)
  rw [Nat.sub_sub] at this
  rw [show 19*(j+1)=19*j+19 from o,<- this]
  congr 1
  simp only [nv];omega
def Priv.clear{h g:aN}{e:aP}{A:Option aK}{n c:Nat}{xs:List bM}(p:bY h g e 1 A n c xs):bY h g e 1 A 0 c []:=by
 obtain ⟨a,b,d⟩:=p
 refine ⟨by simp,o,?_⟩
 grind
def nz(ns:List Nat):List Int:=ns.map fun (x:Nat)=>(x:Int)
def Bx(g:aN)(eT:aP)(A:Option aK)(n c:Nat)(l:List UInt8)(p:aK)(CA:Option aK)(ns:List Nat)(bl t:List UInt8)(tA:Option aK)(tn tc:Nat)(hp:aN):Prop:=
 ∃ e2 gA gB,Ext g eT A n c l t tA tn tc e2 gA hp/\bY gA gB 360 1 (some p) bl.length 20 (yv bl)/\g.le gB/\SlI .u64 gB CA (nz ns)
section
variable {h g:aN} {K:VP} {A CA:Option aK} {n c:Nat} {eT:aP} {l:List UInt8} {p:aK} {ns:List Nat}
def A46{bl t s:List UInt8}{tA tA':Option aK}{tn tc tn' tc':Nat}{e2 e3:aP}{gA gB g' hp hp':aN}(x:Ext g eT A n c l t tA tn tc e2 gA hp)(q:bY gA gB 360 1 (some p) bl.length 20 (yv bl))(lg:g.le gB)(sc:SlI .u64 gB CA (nz ns))(y:Ext gA e2 tA tn tc (l++t) s tA' tn' tc' e3 g' hp'):Bx g eT A n c l p CA ns bl (t++s) tA' tn' tc' hp':=by
 obtain ⟨a,b,d⟩:=q.after y.le
 exact ⟨e3,g',a,x.trans y,d,A0 lg b,sc.mono b⟩
def B4m{Invv2:LP}{muv2:LN}{tA:Option aK}{tn tc q:Nat}{first:Bool}{i1 size:Int}{bl t:List UInt8}{hp9 hp11:aN}(x:Bx g eT A n c l p CA ns bl t tA tn tc hp11)(hq:B9 (size-((bl.length:Nat):Int))=(q:Int))(hb:n+t.length+q+bl.length<=100000000000)
 (hK:∀ tA' tn' tc' hp',Bx g eT A n c l p CA ns bl (t++(aE q 48++bl)) tA' tn' tc' hp'->Invv2 [.slice tA' tn' tc',.bool false,I (B9 (i1-1))] hp'/\muv2 [.slice tA' tn' tc',.bool false,I (B9 (i1-1))] hp'<muv2 [.slice tA tn tc,.bool first,I i1] hp9):
 Fw prog Invv2 muv2 tA tn tc first i1 (some p) bl.length 20 size hp9 hp11:=by
 refine ⟨fun s m=>∃ (k:Nat) (tA:Option aK) (tn tc:Nat),s=[.slice tA tn tc,I k]/\k<=q/\Bx g eT A n c l p CA ns bl (t++aE k 48) tA tn tc m,fun s _=>q-(iAt s 1).toNat,⟨0,tA,tn,tc,rfl,o,gz0⟩,?_⟩
 rintro C D H M w ⟨k,O,N,G,L,R,T,V,S,ex,d,j,r⟩
 obtain ⟨⟨rfl,rfl,rfl⟩,rfl⟩:=L
 have a:=ex.len
 rw [aL,List.length_replicate] at a
 refine B4 (fun B=>?_) (fun B=>?_)
 ·refine Ew (ch:=48) rfl ex.priv o ?_
  intro A' Q z W E u y
  rw [B5 o o]
  refine ⟨⟨k+1,_,_,_,rfl,o,?_⟩,by simp only [iAt,aF,aI];omega⟩
  have:=A46 ex d j r y
  rwa [cH,<- List.replicate_succ'] at this
 ·obtain rfl:k=q:=o
  refine ⟨fun s m=>∃ (tA:Option aK) (tn tc:Nat),s=[.slice tA tn tc]/\Bx g eT A n c l p CA ns bl (t++(aE k 48++bl)) tA tn tc m,?_,?_⟩
  ·refine To Gv ex.priv (Gj bl) (SlV.mono ex.priv.le d.slV) (Xu _) o o ?_ ?_
   ·intro F u b
    rw [<- Aj] at b
    refine ⟨_,_,_,rfl,_,_,_,rfl,?_⟩
    have:=A46 ex d j r (s:=bl) ⟨B0 _,b,rfl,fun _=>⟨rfl,rfl,rfl⟩,id⟩
    grind
   ·intro F A' z u E i b
    rw [<- Aj] at b
    refine ⟨_,_,_,rfl,_,_,_,rfl,?_⟩
    have:=A46 ex d j r (s:=bl) ⟨i,b,rfl,fun e=>o,fun _=>rfl⟩
    grind
  grind
def B4k{W tn tc:Nat}{tA:Option aK}{t:List UInt8}{e2:aP}{gA hp9:aN}(x:Ext g eT A n c l t tA tn tc e2 gA hp9)(hW:W<=10000000000)(hb:tn<=10000000000)(hK:∀ A' n' c' e3 g' h',Ext g eT A n c l (t++aE W 48) A' n' c' e3 g' h'->K (.slice A' n' c') h'):Fv prog (W:Int) K tA tn tc hp9:=by
 refine ⟨fun s b=>∃ (k:Nat) (tA:Option aK) (tn' tc:Nat) (e3:aP) (g':aN),s=[.slice tA tn' tc,I k]/\k<=W/\tn'=tn+k/\Ext g eT A n c l (t++aE k 48) tA tn' tc e3 g' b,fun s _=>W-(iAt s 1).toNat,⟨0,tA,tn,tc,e2,gA,rfl,o,rfl,gz0⟩,?_⟩
 rintro u w q i a ⟨k,z,e,j,e3,g',B,C,m,ex⟩
 obtain ⟨⟨rfl,rfl,rfl⟩,rfl⟩:=B
 refine B4 (fun r=>?_) (fun r=>?_)
 ·refine Ew (ch:=48) rfl ex.priv o ?_
  intro A' n' c' p d h' y
  rw [B5 o o]
  refine ⟨⟨k+1,_,_,_,p,d,rfl,o,?_,?_⟩,by simp only [iAt,aF,aI];omega⟩
  ·have:=y.len;grind
  ·have:=ex.trans y
   rwa [cH,<- List.replicate_succ'] at this
 grind
def B4l{W cn:Nat}{tA:Option aK}{tn tc:Nat}{hp8:aN}{b:Nat}(gp:Gp g)(hp:p=⟨b,0,none⟩)(x:Bx g eT A n c l p CA ns [] [] tA tn tc hp8)(hcn:cn=ns.length)(hb:∀ c∈ns,c<10^19)(ht:ns.getLast? ≠ some 0)(hW:W<=1000000000)(hn:n<=1000000000)(hnl:ns.length<=1000000000)
 (hK:∀ A' n' c' e3 g' h',Ext g eT A n c l (pad W (nv ns)) A' n' c' e3 g' h'->K (.slice A' n' c') h'):Fx prog tA tn tc (W:Int) K CA cn p hp8:=by
 subst hcn
 have i:U3 (some p) 20 0 1=some p:=by rfl
 refine ⟨fun s hp=>∃ (k:Nat) (tA:Option aK) (tn tc:Nat) (G:List UInt8),s=[.slice tA tn tc,.bool (decide (k=ns.length)),I ((k:Int)-1)]/\k<=ns.length/\Bx g eT A n c l p CA ns G (A77 W ns k) tA tn tc hp,fun s _=>(iAt s 2+1).toNat,⟨ns.length,tA,tn,tc,[],by rw [B5 o o];simp,bL _,by unfold A77;grind⟩,?_⟩
 rintro w z D first i1 af ⟨k,ag,ae,ab,G,hs,hk,L,gA,gB,ex,C,r,Q⟩
 obtain ⟨⟨rfl,rfl,rfl⟩,rfl,rfl⟩:=hs
 have H:=ex.len
 have V:=B2c (W:=W) hb k
 refine B4 (fun h1=>?_) (fun h1=>?_)
 ·obtain ⟨j,rfl⟩:∃ j,k=j+1:=⟨k-1,o⟩
  have e:((j+1:Nat):Int)-1=(j:Int):=o
  rw [e]
  have F:j<ns.length:=o
  refine ⟨⟨o,o⟩,?_⟩
  refine (Q.mono (A0 C.le ex.priv.le)).load (by simp [nz]) o o ?_
  have hz:(nz ns).getD (j:Int).toNat 0=((ns[j]:Nat):Int):=by
   simp [nz,List.getD,F]
  rw [hz,i,show ((0:Int)).toNat-0=0 from rfl,show 20-0=20 from rfl]
  have a:=hb ns[j] (cX F)
  have ad:(P5 ns[j]).length<=20:=(V5 dc).2 (aR a dc)
  refine ex.priv.call ?_
  refine Fq (l:=[]) (gp.mono (A0 r C.le)) C.clear (aR a dc) o ?_
  intro A' n' c' e3 g' S y h' X
  obtain ⟨rfl,rfl,rfl⟩:=y.fit o
  have N:=y.len
  rw [cJ] at N
  subst N
  refine ⟨_,_,_,rfl,?_⟩
  have x2:Bx g eT A n c l p CA ns (P5 ns[j]) (A77 W ns (j+1)) w z D h':=
   ⟨L,S,g',⟨A0 r (A0 y.le y.priv.le),X,ex.len,ex.fit,ex.tag⟩,by simpa using y.priv,A0 r y.le,Q.mono y.le⟩
  refine ⟨fun s hp=>s=[I (((if j+1=ns.length then max (P5 ns[j]).length (W-19*j) else 19):Nat):Int)]/\hp=h',B4 (fun m=>⟨?_,rfl⟩) (fun m=>⟨gz0,rfl⟩),?_⟩
  ·rw [iP m,B5 (n:=19*(j:Int)) o o,B5 o o]
   grind
  ·rintro d M ⟨ac,rfl⟩
   obtain rfl:d=(((if j+1=ns.length then max (P5 ns[j]).length (W-19*j) else 19):Nat):Int):=gz0
   have R:(P5 ns[j]).length<=19:=(V5 dc).2 a
   generalize hsz:(if j+1=ns.length then max (P5 ns[j]).length (W-19*j) else 19)=sz at *
   have O:(P5 ns[j]).length<=sz/\sz<=W+20:=by
    grind
   refine B4m (q:=sz-(P5 ns[j]).length) x2 (by rw [B5 o o];omega) o ?_
   intro B E u aa T
   rw [B5 o o]
   refine ⟨⟨j,B,E,u,P5 ns[j],?_,o,?_⟩,by simp only [iAt,aF,aI];omega⟩
   ·rw [show decide (j=ns.length)=false from gz0]
   ·rw [A7t hb ht F,hsz];exact T
 ·obtain rfl:k=0:=o
  refine B4 (fun m=>?_) (fun m=>?_)
  ·refine B4k ex o o ?_
   intro A' n' c' e3 g' h' y
   refine hK _ _ _ e3 g' _ ?_
   have:A77 W [] 0++aE W 48=pad W (nv []):=by simp [A77,nv,pad,N9]
   grind
  ·refine hK _ _ _ L gA _ ?_
   ·have:A77 W ns 0=pad W (nv ns):=by unfold A77;grind
    grind
end
def B4r:(prog.info? 360).map (fun i=>i.zero)=some (some (.agg (bZ 20 (.int .u8 0)))):=by kernel_rfl
def B7w(ns:List Nat)(c:Nat):nz (ns++[c])=nz ns++[(c:Int)]:=by simp [nz]
section
variable {h g:aN} {K:VP} {A XA:Option aK} {n c:Nat} {eT:aP} {l:List UInt8}
def Eh{xn xc v W:Nat}(gp:Gp g)(p:bY h g eT 1 A n c (yv l))(M:Mw g XA xn (v:Int))(hx:xn<=10000000)(hW:W<=1000000000)(hn:n<=1000000000)
 (hK:∀ A' n' c' e3 g' h',Ext g eT A n c l (pad W v) A' n' c' e3 g' h'->K (.slice A' n' c') h'):aH prog 294 #[.slice A n c,.slice XA xn xc,I (W:Int)] h K:=by
 obtain ⟨xs,E,sx,dx,nx,N⟩:=M
 refine Qw _ _ _ _ _ _ _ ?_
 refine p.call ?_
 refine Eb sx E oo ?_
 intro WA R h0 g0 l0 pw h1 S
 obtain ⟨z,aa,am⟩:=S.swap pw
 refine ⟨_,_,_,rfl,?_⟩
 have an:(v:Int)<2^(64*xn):=by
  have:=R9 (B:=b64) dc dx
  rw [N,<- E,Ha] at this;exact this
 refine ⟨fun s hp=>∃ (a:List Int) (ns:List Nat) (WA CA:Option aK) (wn R cn cc:Nat) (z g2 g3:aN),s=[.slice WA wn R,.slice CA cn cc]/\Pw hp z WA wn R a/\Pw z g2 CA cn cc (nz ns)/\bY g2 g3 eT 1 A n c (yv l)/\g.le g3/\wn=a.length/\cn=ns.length/\wn<=xn/\Dig b64 a/\Norm a/\(∀ c∈ns,c<10^19)/\(v:Int)=val b64 a*cB^ns.length+(nv ns:Int)/\(a=[]->ns.getLast? ≠ some 0),fun s hp=>match s with|[.slice A n _,_]=>B80 b64 hp A n|_=>0,⟨xs,[],WA,none,xs.length,R,0,0,z,z,g0,rfl,aa,Priv.nil _ _ _ _,am,l0,rfl,rfl,oo,dx,nx,by simp,by simp [nv,N],by simp⟩,?_⟩
 rintro WA1 L af CA1 ai ay O ⟨a,ns,WA2,CA2,ax,au,az,aq,z,g2,g3,hs,pw,pc,S,lg,F,X,ar,T,nu,hb,hv,w⟩
 obtain ⟨⟨rfl,rfl,rfl⟩,rfl,rfl,rfl⟩:=hs
 have ap:=C5 (B:=b64) dc T
 have Mu:Mw O WA1 L (val b64 a):=⟨a,F,pw.slV,T,nu,rfl⟩
 refine B4 (fun h2=>?_) (fun h2=>?_)
 ·have V:a≠[]:=gz0
  have G:0<val b64 a:=by
   have:=Mu.len_zero dc
   omega
  have u:ns.length<=64*xn:=by
   by_cases hc:ns.length<=64*xn
   ·exact hc
   ·exfalso
    have h3:(2:Int)^(64*xn)<=2^ns.length:=D5 dc oo
    have h4:(2:Int)^ns.length<=cB^ns.length:=by
     have:∀ k:Nat,(2:Int)^k<=cB^k:=by
      intro k
      induction k with
      | zero=>simp
      | succ k ih=>
       grind
     grind
    have h5:1*cB^ns.length<=val b64 a*cB^ns.length:=Int.mul_le_mul_of_nonneg_right G (Int.le_of_lt (Int.pow_pos dc))
    omega
  refine C2x pw V F T oo ?_
  intro ws m r av al hm ao nw dw j hr
  obtain ⟨q,ab,ag⟩:=al.swap pc
  refine Gy Q6 ab rfl rfl oo oo ?_
  intro CA' aj h' g' ae i
  obtain ⟨x,l2,d⟩:=ag.after ae
  obtain ⟨g4,Q,ad⟩:=i.swap d
  obtain ⟨g5,l5,ac⟩:=S.after l2
  obtain ⟨c0,e⟩:∃ c0:Nat,r=(c0:Int):=⟨r.toNat,oo⟩
  refine ⟨⟨ws.take m,ns++[c0],WA1,CA',m,af,ai+1,aj,g4,x,g5,rfl,Q,?_,ac,A0 lg l5,hm,gz0,oo,dw,nw,?_,?_,?_⟩,?_⟩
  ·have h9:=ad
   rw [<- List.map_singleton (f:=aU .u64),<- List.map_append,e,<- B7w] at h9
   exact h9
  ·grind
  ·rw [A98,hv,j,aL,cO,Int.pow_succ,e];grind
  ·intro he
   rw [List.getLast?_append]
   simp only [dJ,Option.some_or,ne_eq,aW]
   intro e0
   rw [he] at j
   simp [val] at j
   omega
  ·show B80 b64 h' WA1 m<B80 b64 O WA1 L
   have Mw2:Mw h' WA1 m (val b64 (ws.take m)):=⟨ws.take m,hm,Q.slV,dw,nw,rfl⟩
   rw [Hj Mw2,Hj Mu]
   grind
 ·have C:a=[]:=aO oo
  subst C
  obtain ⟨x,ah,i⟩:=pc.swap S
  obtain ⟨q,D,d⟩:=pw.swap ah
  have ak:v=nv ns:=by
   simp [val] at hv;omega
  have u:ns.length<=1000000000:=by
   by_cases e:ns=[]
   ·grind
   ·have h7:=w rfl
    obtain ⟨ms,c0,rfl⟩:∃ ms c0,ns=ms++[c0]:=⟨ns.dropLast,ns.getLast e,(List.dropLast_concat_getLast e).symm⟩
    rw [List.getLast?_append] at h7
    simp only [dJ,Option.some_or,ne_eq,aW] at h7
    have h8:=A98 ms c0
    by_cases hc:ms.length<=64*xn
    ·grind
    ·exfalso
     have h3:(2:Int)^(64*xn)<=2^ms.length:=D5 dc oo
     have h4:(2:Int)^ms.length<=cB^ms.length:=by
      have:∀ k:Nat,(2:Int)^k<=cB^k:=by
       intro k
       induction k with
       | zero=>simp
       | succ k ih=>
        grind
      grind
     have h5:cB^ms.length*1<=cB^ms.length*(c0:Int):=Int.mul_le_mul_of_nonneg_left oo (Int.le_of_lt (Int.pow_pos dc))
     omega
  refine T7 B4r ?_
  intro b y
  refine ⟨_,rfl,?_⟩
  have H:q b=none:=by
   cases hx1:q b with
   | none=>rfl
   | some o=>rw [D.le b o hx1] at y;cases y
  refine B4l (ns:=ns) gp rfl ⟨eT,_,q,⟨?_,?_,by simp,fun _=>⟨rfl,rfl,rfl⟩,id⟩,⟨by simp [yv],by simp,.inr ⟨b,aE 20 (aU .u8 0),rfl,H,rfl,by simp,by simp [yv]⟩⟩,?_,?_⟩ X hb (w rfl) hW hn u (by rw [<- ak];exact hK)
  ·exact A0 lg (A0 i.le (A0 d.le (Heap.le_put _ H)))
  ·rw [List.append_nil];exact D.put y _
  ·exact A0 lg (A0 i.le d.le)
  ·exact (show SlI .u64 x CA1 (nz ns) from i.slV).mono d.le
end
def Km(i:Nat):Nat:=10^(19*2^i)
def A7y(i:Nat):Km i=(10^19)^(2^i):=cY _ _ _
def B2g(i:Nat):0<Km i:=Nat.pow_pos dc
def A00(i:Nat):Km (i+1)=Km i*Km i:=by
 unfold Km
 rw [<- Nat.pow_add]
 grind
def B6j(i:Nat):(Km i:Int)<b64^(2^i):=by
 have h:(10^19)^(2^i)<(18446744073709551616:Nat)^(2^i):=Nat.pow_lt_pow_left dc (Nat.pos_iff_ne_zero.1 (Nat.pow_pos dc))
 rw [<- A7y] at h
 grind
def B6k(i:Nat):(2:Int)^(63*2^i)<=(Km i:Int):=by
 have h:(2^63)^(2^i)<=(10^19)^(2^i):=cP dc _
 rw [<- A7y,<- cY] at h
 grind
def B9s{k m:Nat}(h:(2:Int)^k<2^m):k<m:=by
 by_cases a:k<m
 ·exact a
 ·have:=D5 (B:=2) dc (show m<=k from o)
  omega
abbrev slT(s:Option aK × Nat × Nat):bM:=.slice s.1 s.2.1 s.2.2
def Pws(h:aN)(PA:Option aK)(k:Nat):Prop:=∃ ss:List (Option aK × Nat × Nat),ss.length=k/\SlV h PA (ss.map slT)/\∀ i s,ss[i]? = some s->s.2.1<=s.2.2/\Mw h s.1 s.2.1 (Km i:Int)
def Pws.mono{h h':aN}(l:h.le h'){PA:Option aK}{k:Nat}(p:Pws h PA k):Pws h' PA k:=by
 obtain ⟨d,b,c,a⟩:=p
 exact ⟨d,b,c.mono l,fun i s e=>⟨(a i s e).1,(a i s e).2.mono l⟩⟩
def Pws.take{h:aN}{PA:Option aK}{k j:Nat}(p:Pws h PA k)(hj:j<=k):Pws h PA j:=by
 obtain ⟨a,d,b,g⟩:=p
 refine ⟨a.take j,gz0,?_,fun i s e=>?_⟩
 ·have:=SlV.cut (c:=(a.map slT).length) b (Nat.zero_le j) gz0 (bL _)
  rw [O7,aZ,bF,<- List.map_take] at this
  exact this
 grind
def Pws.at{h:aN}{PA:Option aK}{k i:Nat}(p:Pws h PA k)(hi:i<k):∃ (a:aK) (A:Option aK) (n c:Nat),PA=some a/\h.cell? (a.add i)=some (.slice A n c)/\n<=c/\Mw h A n (Km i:Int):=by
 obtain ⟨e,g,b,j⟩:=p
 obtain ⟨a,d,l⟩:=b.at (i:=i) gz0
 grind
def Mw.tenP_le{h:aN}{A:Option aK}{n i:Nat}(m:Mw h A n (Km i:Int)):n<=2^i:=m.len_le dc (B6j i)
def Mw.tenP_ge{h:aN}{A:Option aK}{n i:Nat}(m:Mw h A n (Km i:Int)):2^i<2*n:=by
 have a:=m.lt dc
 rw [Ha] at a
 have b:=B9s (Int.lt_of_le_of_lt (B6k i) a)
 omega
def Ext.weak{g g0 g' h':aN}{eT e2:aP}{A A':Option aK}{n c n' c':Nat}{l t:List UInt8}(l0:g0.le g)(x:Ext g eT A n c l t A' n' c' e2 g' h'):Ext g0 eT A n c l t A' n' c' e2 g' h':=⟨A0 l0 x.le,x.priv,x.len,x.fit,x.tag⟩
def C1m(w n:Nat):w<=(pad w n).length:=by simp [pad];omega
def B6v{j:Nat}(hj:j<=50):B9 (19*2^(min j 64))=((19*2^j:Nat):Int):=by
 rw [Nat.min_eq_left o]
 have b:2^j<=2^50:=aJ dc hj
 have a:(19*2^j:Int)=((19*2^j:Nat):Int):=by rfl
 rw [a,B5 o o]
def Yu{l:List UInt8}(hd:∀ c∈l,L9 c):(S6 l:Int)<b64^(l.length/19+1):=by
 have g:=Kg hd
 have b:10^l.length<=10^(19*(l.length/19+1)):=aJ dc o
 rw [cY] at b
 have e:(10^19)^(l.length/19+1)<=(18446744073709551616:Nat)^(l.length/19+1):=cP dc _
 have d:S6 l<(18446744073709551616:Nat)^(l.length/19+1):=o
 have a:=Int.ofNat_lt.2 d
 rw [Int.natCast_pow] at a
 exact a
def Qr:∀ (k:Nat) {h g:aN} {K:VP} {A XA PA:Option aK} {n c xn xc pc v W:Nat} {eT:aP} {l:List UInt8},Gp g->bY h g eT 1 A n c (yv l)->Mw g XA xn (v:Int)->xn<=xc->xn<=10000000->Pws g PA k->k<=pc->k<=26->(W=0\/W=19*2^k)->n+(pad W v).length<=1000000000->
 (∀ A' n' c' e3 g' h',Ext g eT A n c l (pad W v) A' n' c' e3 g' h'->K (.slice A' n' c') h')->aH prog 247 #[.slice A n c,.slice XA xn xc,I (W:Int),.slice PA k pc] h K:=by
 intro k
 induction k with
 | zero=>
  intro h g K A XA PA n c xn xc pc v W eT l d p M z G y F hk hW Q E
  refine (fnk func247) ?_
  refine B4 (fun _=>?_) (fun e=>absurd dc e)
  refine Eh d p M G o o ?_
  grind
 | succ j ih=>
  intro h g K A XA PA n c xn xc pc v W eT l d p M z G y F hk hW Q E
  have T:=C1m W v
  have e1:B9 (((j+1:Nat):Int)-1)=(j:Int):=by rw [B5 o o];omega
  refine (fnk func247) ?_
  simp only [e1,aC,bF,O7,B6v (show j<=50 from o)]
  refine B4 (fun e=>absurd e o) (fun _=>B4 (fun _=>?_) (fun _=>?_))
  ·refine Eh d p M G o o ?_
   grind
  ·obtain ⟨a,PA',pn,ad,ha,hc,u,Mp⟩:=y.at (i:=j) o
   refine ⟨a,ha,o,o,_,_,_,by rw [bK];exact B7 p.le hc,?_⟩
   have ah:=Mp.tenP_le
   have aa:2^j<=2^26:=aJ dc o
   have D:=B2g j
   refine p.call ?_
   refine V4 M Mp z u o o o ?_
   intro A1 m1 c1 A2 m2 c2 g1 b V R M1 M2 h1 O
   refine ⟨_,_,_,_,_,_,rfl,?_⟩
   rw [<- Int.natCast_ediv] at M1
   rw [<- Int.natCast_emod] at M2
   have hv:=Nat.div_add_mod v (Km j)
   have m:=Nat.mod_lt v D
   have ac:=bI v (Km j)
   generalize v/Km j=q at *
   generalize v%Km j=r at *
   have hz:=M1.len_zero dc
   have H:=M.lt dc
   have af:m1<=xn:=M1.len_le dc o
   have ae:m2<=xn:=M2.len_le dc (by
    omega)
   have C:v=q*10^(19*2^j)+r:=by rw [<- hv,Nat.mul_comm];rfl
   refine B4 (fun e=>absurd e o) (fun _=>?_)
   refine C8 (fun X=>C8 (fun eW=>?_) (fun eW=>?_)) (fun X=>?_)
   ·obtain rfl:W=0:=o
    obtain rfl:q=0:=o
    obtain rfl:v=r:=o
    refine ⟨⟨o,o⟩,?_⟩
    refine ih (W:=0) (d.mono b) O M2 R o ((y.mono b).take o) o o (.inl rfl) Q ?_
    intro A4 n4 c4 S N h4 B
    exact ⟨_,_,_,rfl,E _ _ _ _ _ _ (B.weak b)⟩
   all_goals
    have hw:q≠0\/19*2^j<=W:=o
    have x:=A0v (w:=W) (h:=q) (l:=r) (k:=19*2^j) m hw
    rw [<- C] at x
    have ab:(pad (19*2^j) r).length=19*2^j:=Vo m
    have ai:(pad W v).length=(pad (W-19*2^j) q).length+19*2^j:=gz0
    refine ⟨⟨o,o⟩,?_⟩
    have e3:(if (0:Int)>B9 ((W:Int)-((19*2^j:Nat):Int)) then (0:Int) else B9 ((W:Int)-((19*2^j:Nat):Int)))=((W-19*2^j:Nat):Int):=by
     rw [B5 o o]
     omega
    rw [e3]
    refine ih (d.mono b) O M1 V o ((y.mono b).take o) o o o o ?_
    intro A3 n3 c3 e3 g3 h3 s
    have ag:=s.len
    have L:=A0 b s.le
    refine ⟨_,_,_,rfl,⟨o,o⟩,?_⟩
    refine ih (d.mono L) s.priv (M2.mono s.le) R o ((y.mono L).take o) o o (.inr rfl) o ?_
    intro A4 n4 c4 S N h4 B
    refine ⟨_,_,_,rfl,E _ _ _ S N _ ?_⟩
    rw [x]
    exact (s.trans B).weak b
def Hf:∀ (k:Nat) {h:aN} {K:VP} {PA:Option aK} {pc:Nat} {l:List UInt8},(∀ c∈l,L9 c)->l.length<=140737488351232->Pws h PA k->k<=pc->k<=50->(∀ A n c h',h.le h'->n<=c->Mw h' A n (S6 l:Int)->K (.slice A n c) h')->aH prog 187 #[.string (bs l),.slice PA k pc] h K:=by
 intro k
 induction k using Nat.strongRecOn with
 | _ k ih=>
  intro h K PA pc l u hl C aa hk T
  refine (fnk func187 [(2,[5],[],[I 0])] (os:=[(7,[0,1,2,3,4,5,7,8,9,10,6,11,12])])) ?_
  rw [P3]
  have b:aH prog 249 #[.string (bs l)] h (fun r w=>∃ (A:Option aK) (n c:Nat),r= .slice A n c/\K (.slice A n c) w):=by
   refine Qk u hl ?_
   grind
  refine ⟨fun s w=>w=h/\∃ j:Nat,s=[I ((j:Int)-1)]/\j<=k,fun s _=>(iAt s 0+1).toNat,⟨rfl,k,by rw [B5 o o],bL _⟩,?_⟩
  rintro g w ⟨rfl,j,hs,hj⟩
  obtain rfl:g=(j:Int)-1:=gz0
  refine B4 (fun O=>?_) (fun O=>B4 (fun _=>b) (fun e=>absurd (show (j:Int)-1<0 from o) e))
  obtain ⟨i,rfl⟩:∃ i,j=i+1:=⟨j-1,o⟩
  have N:((i+1:Nat):Int)-1=(i:Int):=o
  simp only [N,aC,bF,O7,B6v (show i<=50 from o)]
  refine B4 (fun e=>absurd e o) (fun _=>B4 (fun G=>?_) (fun G=>?_))
  ·refine ⟨⟨trivial,i,by rw [B5 o o],o⟩,?_⟩
   simp only [iAt,aF]
   rw [B5 o o]
   omega
  refine B4 (fun e=>absurd e o) (fun _=>B4 (fun _=>b) (fun F=>B4 (fun e=>absurd e o) (fun _=>?_)))
  have W:B9 ((l.length:Int)-((19*2^i:Nat):Int))=((l.length-19*2^i:Nat):Int):=by rw [B5 o o];omega
  simp only [W,aC,T5,aZ,bF]
  obtain ⟨a,PA',pn,V,ha,q,p,Mp⟩:=C.at (i:=i) o
  refine ⟨⟨o,o⟩,⟨o,o⟩,a,ha,o,o,_,_,_,by rw [bK];exact q,?_⟩
  have ac:=Mp.tenP_le
  have m:∀ c∈l.take (l.length-19*2^i),L9 c:=fun c q=>u c (bX q)
  have d:∀ c∈l.drop (l.length-19*2^i),L9 c:=fun c q=>u c (List.mem_of_mem_drop q)
  have ad:(l.take (l.length-19*2^i)).length=l.length-19*2^i:=gz0
  have y:(l.drop (l.length-19*2^i)).length=19*2^i:=gz0
  have H:S6 l=S6 (l.take (l.length-19*2^i))*Km i+S6 (l.drop (l.length-19*2^i)):=by
   have:=Kh (l.take (l.length-19*2^i)) (l.drop (l.length-19*2^i))
   rw [cN,y] at this
   exact this
  have Q:=Yu u
  have E:=Yu m
  have B:=Yu d
  refine ih i o m o (C.take o) o o ?_
  intro A1 n1 c1 G x M M1
  refine ⟨_,_,_,rfl,x,?_⟩
  have R:=M1.len_le dc E
  refine F4 M1 (Mp.mono x) M p o o ?_
  intro A2 n2 c2 h2 D k2 M2
  refine ⟨_,_,_,rfl,D,⟨o,o⟩,⟨o,o⟩,?_⟩
  have ab:=M2.len_le dc (Int.lt_of_le_of_lt (Int.ofNat_le.2 o) Q)
  rw [aQ o]
  refine ih i o d o ((C.mono (A0 x D)).take o) o o ?_
  intro A3 n3 c3 h3 z S M3
  refine ⟨_,_,_,rfl,z,?_⟩
  have X:=M3.len_le dc B
  refine T9 (M2.mono z) M3 k2 S o o ?_
  intro A4 n4 c4 h4 L k4 M4
  refine ⟨_,_,_,rfl,L,T _ _ _ _ (A0 x (A0 D (A0 z L))) k4 ?_⟩
  grind
section
variable {h g:aN} {K:VP} {A XA:Option aK} {n c:Nat} {eT:aP} {l:List UInt8}
def A01{hs:aN}{ss:List (Option aK × Nat × Nat)}{s:Option aK × Nat × Nat}(h3:∀ i s,ss[i]? = some s->s.2.1<=s.2.2/\Mw hs s.1 s.2.1 (Km i:Int))(h4:s.2.1<=s.2.2/\Mw hs s.1 s.2.1 (Km ss.length:Int)):∀ i t,(ss++[s])[i]? = some t->t.2.1<=t.2.2/\Mw hs t.1 t.2.1 (Km i:Int):=by
 grind
def Wv{hs:aN}{b:Nat}{e:aP}: ∀ i (t:Option aK × Nat × Nat),[((some ⟨b,0,none⟩:Option aK),1,1)][i]? = some t->t.2.1<=t.2.2/\Mw (hs.put b (.cells #[U 10000000000000000000] e)) t.1 t.2.1 (Km i:Int):=by
 intro i t a
 rcases i with _|i
 ·simp at a
  subst a
  refine ⟨bL _,[10000000000000000000],rfl,SlI.new _ _ _ _ _,?_,?_,?_⟩
  ·intro x c;grind
  ·unfold Norm;simp
  rfl
 grind
def Sf(hd:∀ c∈l,L9 c)(hl:l.length<=140737488351232)(hK:∀ A n c h',h.le h'->n<=c->Mw h' A n (S6 l:Int)->K (.slice A n c) h'):aH prog 119 #[.string (bs l)] h K:=by
 refine (fnk func119 [(4,[3],[],[.slice none 0 0])]) ?_
 rw [P3]
 refine B4 (fun h5=>?_) (fun _=>?_)
 ·refine Y5 Q6 rfl ?_
  intro r y
  refine ⟨_,_,_,rfl,?_⟩
  refine Gy A4j (Priv.nil _ _ _ none) rfl rfl o o ?_
  intro A1 c1 h1 T q S
  refine ⟨fun s w=>∃ (d:List (Option aK × Nat × Nat)) (PA:Option aK) (k x:Nat) (g:aN),s=[.slice PA k x]/\bY w g 74 1 PA k x (d.map slT)/\d.length=k/\0<k/\h.le g/\(∀ i s,d[i]? = some s->s.2.1<=s.2.2/\Mw g s.1 s.2.1 (Km i:Int))/\2^(k-1)<=l.length,fun s _=>match s with|[.slice _ n _]=>l.length-n|_=>0,⟨[(some ⟨r,0,none⟩,1,1)],A1,1,c1,T,rfl,S,rfl,o,A0 (Heap.le_put _ y) q,fun i s e=>⟨(Wv (hs:=h) (b:=r) (e:=194) i s e).1,(Wv (hs:=h) (b:=r) (e:=194) i s e).2.mono q⟩,o⟩,?_⟩
  rintro PA k x w ⟨d,PA',k',Q,g,hs,p,C,R,B,m,N⟩
  obtain ⟨rfl,rfl,rfl⟩:=hs
  have G:k-1<47:=by
   by_cases j:k-1<47
   ·exact j
   ·have:2^47<=2^(k-1):=aJ dc o
    omega
  rw [aC,B6v (show k<=50 from o)]
  have X:B9 ((k:Int)-1)=((k-1:Nat):Int):=by rw [B5 o o];omega
  have z:Pws w PA k:=⟨d,C,p.slV,fun i s e=>⟨(m i s e).1,(m i s e).2.mono p.le⟩⟩
  refine B4 (fun e=>absurd e o) (fun _=>B4 (fun V=>?_) (fun V=>?_))
  ·obtain ⟨a,ha,j⟩:=p.slV.at (i:=k-1) gz0
   rw [List.getElem_map] at j
   obtain ⟨D,M⟩:=m (k-1) (d[k-1]'o) (bH o)
   generalize d[k-1]'o=s at *
   dsimp only;rw [X]
   refine ⟨a,ha,o,o,_,_,_,by rw [aC,bK];exact j,?_⟩
   have E:=M.tenP_le
   have O:2^k=2*2^(k-1):=by rw [<- Nat.pow_succ',show (k-1).succ=k from o]
   refine p.call ?_
   refine F4 M M D D o o ?_
   intro A2 H c2 g2 F W M2 h2 L
   refine ⟨_,_,_,rfl,?_⟩
   refine Gy A4j L rfl rfl o o ?_
   intro A3 c3 h3 g3 u p3
   refine ⟨⟨d++[(A2,H,c2)],A3,k+1,c3,g3,rfl,?_,gz0,o,A0 B (A0 F u),?_,?_⟩,?_⟩
   ·grind
   ·refine A01 (fun i s e=>⟨(m i s e).1,(m i s e).2.mono (A0 F u)⟩) ⟨W,?_⟩
    rw [C,show Km k=Km (k-1)*Km (k-1) by rw [<- A00];grind,dD]
    exact M2.mono u
   ·grind
   grind
  ·refine Hf k hd hl z p.2.1 o ?_
   intro A n c h' l1 j M
   exact ⟨_,_,_,rfl,hK _ _ _ _ (A0 B (A0 p.le l1)) j M⟩
 ·refine Hf 0 hd hl ⟨[],rfl,SlV.nil,by simp⟩ o o ?_
  grind
def Ip(hd:∀ c∈l,L9 c)(hl:l.length<=140737488351232)(hK:∀ A n c h',h.le h'->ZI h' false A n c (S6 l:Int)->K (.agg #[.bool false,.slice A n c]) h'):aH prog 54 #[.string (bs l)] h K:=by
 refine (fnk func54 (own:=[2])) ?_
 refine Sf hd hl ?_
 intro A n c h' b a M
 refine ⟨_,_,_,rfl,hK _ _ _ _ b ⟨a,?_,?_⟩⟩
 ·assumption
 rfl
end
def Priv.le_put'{h g:aN}{e:aP}{s:Nat}{A:Option aK}{n c:Nat}{xs:List bM}(p:bY h g e s A n c xs){b:Nat}(hb:h b=none)(o:Obj):g.le (g.put b o):=by
 intro k i d
 have a:k≠b:=by
  rintro rfl
  rw [p.le k i d] at hb;cases hb
 rw [B6 _ _ a];exact d
def A7h{n:Int}(h0:9223372036854775808<=n)(h1:n<18446744073709551616):B9 n=n-18446744073709551616:=by
 unfold B9 IntKind.wrap
 simp only [IntKind.signed,IntKind.bits]
 grind
section
variable {h g:aN} {K:VP} {A XA:Option aK} {n c:Nat} {eT:aP} {l:List UInt8}
def C2i{v xn:Nat}(hv:(v:Int)<b64^xn):(dd v).length<=20*xn:=by
 refine U9.2 ?_
 rw [cY]
 have a:((v:Nat):Int)<((18446744073709551616^xn:Nat):Int):=by assumption
 exact aR (Int.ofNat_lt.1 a) (cP dc _)
def Fs{xn xc v:Nat}(gp:Gp g)(p:bY h g eT 1 A n c (yv l))(M:Mw g XA xn (v:Int))(hxc:xn<=xc)(hx:xn<=10000000)(hn:n<=200000000)
 (hK:∀ A' n' c' e3 g' h',Ext g eT A n c l (P5 v) A' n' c' e3 g' h'->K (.slice A' n' c') h'):aH prog 185 #[.slice A n c,.slice XA xn xc] h K:=by
 have h0:=M.len_zero dc
 refine (fnk func185 [(6,[5],[],[.slice none 0 0])]) ?_
 refine C8 (fun e=>?_) (fun e=>?_)
 ·obtain rfl:v=0:=o
  refine Ew (ch:=48) rfl p o ?_
  assumption
 ·have T:v≠0:=o
  refine C8 (fun e1=>?_) (fun e1=>?_)
  ·obtain ⟨xs,Q,sx,dx,nx,L⟩:=M
   obtain ⟨w,rfl⟩:∃ w,xs=[w]:=by
    rcases xs with _|⟨w,_|⟨w',r⟩⟩
    ·grind
    ·grind
    grind
   rw [Er] at L
   subst L
   refine (SlI.mono p.le sx).load Q o o ?_
   have y:=dx v (by simp)
   refine Fq (gp.mono p.le) p gz0 o ?_
   grind
  ·have al:=C2i (M.lt dc)
   have af:(pad 0 v).length<=200000000:=by rw [A4y];omega
   refine Y5 Q6 rfl ?_
   intro D N
   refine ⟨_,_,_,rfl,?_⟩
   have p1:=p.put N (.cells #[U 10000000000000000000] 194)
   have l1:=p.le_put' N (.cells #[U 10000000000000000000] 194)
   have w1:=fun i s e=>Wv (hs:=g) (b:=D) (e:=194) i s e
   generalize h.put D (Obj.cells #[U 10000000000000000000] 194)=h1 at *
   generalize g.put D (Obj.cells #[U 10000000000000000000] 194)=g1 at *
   refine Y5 A4j rfl ?_
   intro b2 V
   refine ⟨_,_,_,rfl,?_⟩
   have split:∀ {B:aN} {q:List (Option aK × Nat × Nat)} {PA:Option aK} {k z:Nat} {j d:aN},bY B j 74 1 PA k z (q.map slT)->bY j d eT 1 A n c (yv l)->q.length=k->g.le d->(∀ i s,q[i]? = some s->s.2.1<=s.2.2/\Mw d s.1 s.2.1 (Km i:Int))->k<=26->
    aH prog 247 #[.slice A n c,.slice XA xn xc,I (0:Int),.slice PA k z] B (fun r ab=>∃ (A1:Option aK) (n1 c1:Nat),r= .slice A1 n1 c1/\K (.slice A1 n1 c1) ab):=by
    intro B q PA k z j d C E G F y m
    obtain ⟨g3,R,u⟩:=C.swap E
    have H:=A0 F u.le
    refine Qr k (W:=0) (gp.mono H) R (M.mono H) hxc hx ⟨q,G,u.slV,fun i s e=>⟨(y i s e).1,(y i s e).2.mono u.le⟩⟩ u.2.1 m (.inl rfl) o ?_
    intro A' n' c' e2 g' h' x
    refine ⟨_,_,_,rfl,hK _ _ _ e2 g' _ ?_⟩
    rw [A4y,<- Cr T] at x
    exact x.weak H
   refine ⟨fun s B=>∃ (q:List (Option aK × Nat × Nat)) (PA:Option aK) (k z:Nat) (j d:aN),s=[.slice PA k z]/\bY B j 74 1 PA k z (q.map slT)/\bY j d eT 1 A n c (yv l)/\q.length=k/\0<k/\g.le d/\(∀ i s,q[i]? = some s->s.2.1<=s.2.2/\Mw d s.1 s.2.1 (Km i:Int))/\2^(k-1)<=2*xn,fun s _=>match s with|[.slice _ n _]=>xn-n|_=>0,⟨[(some ⟨D,0,none⟩,1,1)],_,1,1,h1,g1,rfl,⟨by simp,by simp,.inr ⟨b2,[.slice (some ⟨D,0,none⟩) 1 1],rfl,V,rfl,by simp,by simp⟩⟩,p1,rfl,o,l1,w1,o⟩,?_⟩
   rintro PA k z B ⟨q,PA',k',ah,j,d,hs,C,E,G,ai,F,y,ak⟩
   obtain ⟨rfl,rfl,rfl⟩:=hs
   have m:k<=26:=by
    by_cases O:k<=26
    ·exact O
    ·have h1:2^26<=2^(k-1):=aJ dc o
     omega
   refine B4 (fun aj=>?_) (fun _=>split C E G F y m)
   have e1:B9 ((k:Int)-1)=((k-1:Nat):Int):=by rw [B5 o o];omega
   obtain ⟨a,ha,O⟩:=C.slV.at (i:=k-1) gz0
   rw [List.getElem_map] at O
   obtain ⟨h4,Mk⟩:=y (k-1) (q[k-1]'o) (bH o)
   generalize q[k-1]'o=s at *
   simp only [e1,aC,bK]
   refine ⟨a,ha,o,o,_,_,_,O,?_⟩
   have ae:=Mk.tenP_ge
   have am:=Mk.tenP_le
   have e2:B9 (2*(s.2.1:Int))=2*(s.2.1:Int):=B5 o o
   refine B4 (fun h5=>?_) (fun _=>split C E G F y m)
   refine ⟨a,ha,o,o,_,_,_,O,?_⟩
   refine C.call (E.call ?_)
   refine F4 Mk Mk h4 h4 o o ?_
   intro A2 m2 c2 g2 l2 k2 M2 ad ac ag X
   refine ⟨_,_,_,rfl,?_⟩
   refine Gy A4j X rfl rfl o o ?_
   intro A3 c3 h3 g3 H p3
   obtain ⟨g4,S,aa⟩:=ac.after H
   have hm:2^k=2*2^(k-1):=by
    obtain ⟨i,rfl⟩:∃ i,k=i+1:=⟨k-1,o⟩
    grind
   refine ⟨⟨q++[(A2,m2,c2)],A3,k+1,c3,g3,g4,rfl,?_,aa,gz0,o,A0 F (A0 l2 S),?_,?_⟩,?_⟩
   ·rw [List.map_append];exact p3
   ·refine A01 (fun i s e=>⟨(y i s e).1,(y i s e).2.mono (A0 l2 S)⟩) ⟨k2,?_⟩
    rw [G,show Km k=Km (k-1)*Km (k-1) by rw [<- A00];grind,dD]
    exact M2.mono S
   ·grind
   omega
def B23{z:Int}{s:Bool}{xn xc m:Nat}(i:ZI h s XA xn xc z)(hz:ZB m z)(hm:m<=100000000):xn<=10000000:=by
 obtain ⟨k,hk⟩:∃ k,k=10000000:=⟨_,rfl⟩
 rw [<- hk]
 refine i.mag.len_le dc ?_
 rw [Ha]
 have a:(z.natAbs:Int)<2^m:=by
  have:((z.natAbs:Nat):Int)<((2^m:Nat):Int):=Int.ofNat_lt.2 hz
  assumption
 have b:=D5 (B:=2) dc (show m<=64*k from o)
 omega
def Gi{s:Bool}{xn xc:Nat}{z:Int}(gp:Gp g)(p:bY h g eT 1 A n c (yv l))(i:ZI g s XA xn xc z){m:Nat}(hz:ZB m z)(hm:m<=100000000)(hn:n<=100000000)
 (hK:∀ A' n' c' e3 g' h',Ext g eT A n c l (Dn z) A' n' c' e3 g' h'->K (.slice A' n' c') h'):aH prog 115 #[.agg #[.bool s,.slice XA xn xc],.slice A n c] h K:=by
 have d:=B23 i hz hm
 refine (fnk func115 (own:=[2])) ?_
 refine Br.of (fun e=>?_) (fun e=>?_)
 ·have a:z<0:=by have:=i.sgn;grind
  rw [Rb a] at hK
  refine Ew (ch:=45) rfl p o ?_
  intro A1 x c1 w u j b
  have:=b.len
  refine Fs (gp.mono b.le) b.priv (i.mag.mono b.le) i.cap d gz0 ?_
  intro A2 B c2 y r q k
  exact ⟨_,_,_,rfl,hK _ _ _ _ _ _ (b.trans k)⟩
 ·have a:¬ z<0:=by have:=i.sgn;grind
  rw [Ky a] at hK
  refine Fs gp p i.mag i.cap d o ?_
  grind
def Gg{s:Bool}{xn xc:Nat}{z:Int}(gp:Gp h)(i:ZI h s XA xn xc z){m:Nat}(hz:ZB m z)(hm:m<=100000000)(hK:K (.string (bs (Dn z))) h):aH prog 114 #[.agg #[.bool s,.slice XA xn xc]] h K:=by
 refine FCall.pure ((fnk func114 (own:=[1])) ?_)
 refine Gi (l:=[]) (eT:=5) gp (Priv.nil _ _ _ _) i hz hm o ?_
 intro A' a c e d b x
 refine ⟨_,_,_,rfl,?_⟩
 have g:=x.len
 refine Ld Gv.und Dm Z1 x.priv.slV gz0 ⟨_,rfl,?_⟩
 exact ⟨A0 x.le x.priv.le,hK⟩
def A2f{s:Bool}{xn xc:Nat}{z:Int}(i:ZI h s XA xn xc z)(hK1: -9223372036854775808<=z->z<9223372036854775808->K (.tuple #[I z,.bool true]) h)(hK0:¬ (-9223372036854775808<=z/\z<9223372036854775808)->K (.tuple #[I 0,.bool false]) h):aH prog 112 #[.agg #[.bool s,.slice XA xn xc]] h K:=by
 have A:=i.zeroIff
 have l:=Bw i.sgn
 refine (fnk func112 (own:=[1])) ?_
 refine C8 (fun e=>?_) (fun e=>?_)
 ·grind
 ·obtain ⟨xs,a,m,y,x,b⟩:=i.mag
  refine m.load a o o ?_
  rw [show ((0:Int)).toNat=0 from rfl]
  refine B4 (fun k=>?_) (fun k=>?_)
  ·refine hK0 ?_
   have j:=i.mag.ge dc o
   have u:b64^1<=b64^(xn-1):=D5 dc o
   grind
  ·obtain ⟨w,rfl⟩:∃ w,xs=[w]:=by
    rcases xs with _|⟨w,_|⟨q,r⟩⟩
    ·grind
    ·grind
    grind
   rw [Er] at b
   have p:[w].getD 0 0=w:=rfl
   rcases l with ⟨rfl,n⟩|⟨rfl,n⟩
   ·refine Br.of (fun _=>?_) (fun g=>by cases g)
    refine B4 (fun c=>?_) (fun c=>?_)
    ·have:B9 (C6 (0-w))=z:=by rw [J0,A7h o o];omega
     grind
    ·refine Br.of (fun d=>by cases d) (fun _=>?_)
     grind
   ·refine Br.of (fun g=>by cases g) (fun _=>?_)
    refine Br.of (fun _=>?_) (fun d=>by cases d)
    refine B4 (fun c=>?_) (fun c=>?_)
    ·have:B9 w=z:=by rw [B5 o o];omega
     grind
    grind
end
def B6r(q:Rat)(f:Int):(q-f).num=q.num-f*q.den/\(q-f).den=q.den:=by
 have b:aT (q.num-f*q.den).natAbs q.den=1:=by
  have a:aV (q.num-f*q.den) q.den=aV q.num q.den:=Int.gcd_sub_mul_right_left _ _ _
  have c:aV q.num q.den=1:=by
   have:=q.reduced
   assumption
  rw [c] at a
  assumption
 have e:q-f=⟨q.num-f*q.den,q.den,q.den_nz,b⟩:=by
  rw [Rat.sub_def',Rat.mk_eq_mkRat];simp
 grind
def Wb(q:Rat):(q<=q.ceil)/\((q.ceil:Rat)<q+1)/\((q.floor:Rat)<=q)/\(q<q.floor+1):=by
 refine ⟨Rat.le_ceil,Rat.ceil_lt,Rat.floor_le q,?_⟩
 have:=Rat.lt_floor_add_one q
 grind
def A9f(a b:Rat):(a*b).num=a.num.tdiv (aT a.num.natAbs b.den:Nat)*b.num.tdiv (aT b.num.natAbs a.den:Nat)/\(a*b).den=a.den/(aT b.num.natAbs a.den)*(b.den/(aT a.num.natAbs b.den)):=by
 show (Rat.mul a b).num=_/\(Rat.mul a b).den=_
 delta Rat.mul
 simp only [Int.divExact_eq_tdiv,Nat.divExact_eq_div,and_self]
def Wg(a b:Rat)(h:a.den.gcd b.den=1):(a+b).num=a.num*b.den+b.num*a.den/\(a+b).den=a.den*b.den:=by
 show (dE a b).num=_/\(dE a b).den=_
 delta dE
 grind
def Wf(a b:Rat)(h:a.den.gcd b.den≠1){g r:Nat}{z:Int}(hg:g=a.den.gcd b.den)(hz:z=a.num*(b.den/g:Nat)+b.num*(a.den/g:Nat))(hr:r=z.natAbs.gcd g):(a+b).num=z.tdiv r/\(a+b).den=a.den/g*(b.den/r):=by
 subst hg hz
 have c:r∣b.den:=by rw [hr];exact Nat.dvd_trans (cF ..) (cF ..)
 show (dE a b).num=_/\(dE a b).den=_
 delta dE
 simp only [h,dif_neg,not_false_eq_true]
 rw [Rat.maybeNormalize_eq]
 subst hr
 refine ⟨?_,Nat.mul_div_assoc _ c⟩
 simp only [Int.divExact_eq_tdiv]
def Nc(a:Rat)(z:Int):(a+z).num=z*a.den+a.num/\(a+z).den=a.den:=by
 have:=B6r a (-z)
 have e:a - -(z:Rat)=a+z:=gz0
 grind
def Vz{q:Rat}(h:q.den=1):q=(q.num:Rat):=by
 apply Rat.ext
 ·simp
 assumption
abbrev dgt(c:UInt8):Bool:=decide (L9 c)
def Lh(l:List UInt8):∀ c∈l.takeWhile dgt,L9 c:=by
 induction l with
 | nil=>simp
 | cons d r ih=>
  intro c b
  by_cases a:L9 d
  ·simp [a] at b
   grind
  simp_all
def B3c(l:List UInt8):Bool:=decide ([45] <+: l)
def Ja(l:List UInt8):List UInt8:=if [45] <+: l then l.drop 1 else l
def A4w(l:List UInt8):l=(if B3c l then [45] else [])++Ja l:=by
 unfold B3c Ja
 by_cases h:[45] <+: l
 ·obtain ⟨t,rfl⟩:=h;simp
 grind
def A8z(l:List UInt8):B3c l=(l.head? == some 45):=by
 unfold B3c
 cases l with
 | nil=>simp
 | cons c r=>
  grind
def Form.parts{l:List UInt8}{neg:Bool}{a b:List UInt8}(f:Form l neg a b):neg=B3c l/\a=(Ja l).takeWhile dgt/\(if b=[] then [] else 47::b)=(Ja l).dropWhile dgt:=by
 have j:neg=B3c l:=by rw [A8z];exact f.head
 have e:=A4w l
 have i:=e.symm.trans f.eq
 have g:∀ c,(if b=[] then [] else 47::b:List UInt8).head? = some c->¬ L9 c:=by
  intro c d
  split at d
  ·grind
  ·simp at d;subst d;decide
 have:=Et f.da g
 grind
section
variable {h g:aN} {K:VP} {l:List UInt8}
def Jj(hl:l.length<=1000000000000000)(hK:K (.tuple #[.string (bs (l.takeWhile dgt)),.string (bs (l.dropWhile dgt))]) h):aH prog 118 #[.string (bs l)] h K:=by
 refine (fnk func118 [(2,[4],[],[I 0])] (cs:=[(4,[4],[],[I 0])])) ?_
 simp only [P3]
 refine ⟨fun L d=>L=[I (((l.takeWhile dgt).length:Nat):Int)]/\d=h,?_,?_⟩
 ·refine ⟨fun L d=>∃ k:Nat,L=[I k]/\d=h/\k<=l.length/\(∀ c∈l.take k,L9 c),fun L _=>l.length-(iAt L 0).toNat,⟨0,rfl,rfl,o,by simp⟩,?_⟩
  rintro n d ⟨k,z,rfl,B,g⟩
  obtain rfl:n=(k:Int):=gz0
  have a:(∀ c,(l.drop k).head? = some c->¬ L9 c)->[I (k:Int)]=[I (((l.takeWhile dgt).length:Nat):Int)]/\d=d:=by
   intro y
   have:=Et g y
   simp_all
  refine B4 (fun u=>?_) (fun u=>?_)
  ·have i:k<l.length:=o
   have b:(bs l)[(k:Int).toNat]? = some l[k]:=by rw [aC,Wc,bH i]
   have r:(l.drop k).head? = some l[k]:=by simp_all
   refine ⟨l[k],⟨o,b⟩,B4 (fun m=>?_) (fun m=>?_)⟩
   ·refine ⟨l[k],⟨o,b⟩,B4 (fun s=>?_) (fun s=>?_)⟩
    ·rw [B5 o o]
     refine ⟨⟨k+1,rfl,rfl,o,?_⟩,by simp only [iAt,aF];omega⟩
     rw [bN i]
     intro c e
     rcases List.mem_append.1 e with q|q
     ·grind
     ·rw [List.mem_singleton.1 q];exact ⟨o,o⟩
    ·exact a (fun c e=>by rw [r] at e;cases e;intro g;exact s (by have:=g.2;omega))
   ·exact a (fun c e=>by rw [r] at e;cases e;intro g;exact m (by have:=g.1;omega))
  grind
 ·rintro n d ⟨z,rfl⟩
  obtain rfl:n=(((l.takeWhile dgt).length:Nat):Int):=gz0
  have w:(l.takeWhile dgt).length<=l.length:=(List.takeWhile_sublist _).length_le
  have j:l.take (l.takeWhile dgt).length=l.takeWhile dgt:=by
   conv=>lhs;rw [<- bU (p:=dgt) (l:=l)]
   rw [bU,List.prefix_iff_eq_take.1 (List.takeWhile_prefix _)]
   grind
  have A:l.drop (l.takeWhile dgt).length=l.dropWhile dgt:=by
   have x:l.takeWhile dgt++l.drop (l.takeWhile dgt).length=l.takeWhile dgt++l.dropWhile dgt:=by
    rw [bU]
    conv=>lhs;lhs;rw [<- j]
    exact cN _ _
   exact List.append_cancel_left x
  refine ⟨⟨o,o⟩,⟨o,o⟩,?_⟩
  rw [aC,T5,T5,aZ,bF,j,A,aQ gz0]
  exact hK
def W5(a:List UInt8):((bs a).toList==({ data:=#[] }:ByteArray).toList)=decide (a=[]):=Na a []
def Ns(hl:l.length<=1000000000000000)(hK1:∀ neg a b,Form l neg a b->K (.tuple #[.agg #[.bool neg,.string (bs a),.string (bs b)],.bool true]) h)(hK0:(∀ neg a b,¬ Form l neg a b)->∀ neg a b,K (.tuple #[.agg #[.bool neg,.string (bs a),.string (bs b)],.bool false]) h):aH prog 53 #[.string (bs l)] h K:=by
 refine (fnk func53 (cs:=[(8,[31],[],[.bool false])]) (own:=[2,4])) ?_
 refine Ut (q:=[45]) ⟨_,_,rfl,?_⟩
 have aa:(Ja l).length<=l.length:=by unfold Ja;grind
 show aH prog 118 #[.string (bs (Ja l))] h _
 refine Jj o ⟨_,_,rfl,?_⟩
 show Br _ _ _
 have x:Ja l=(Ja l).takeWhile dgt++(Ja l).dropWhile dgt:=List.takeWhile_append_dropWhile.symm
 have z:∀ c∈(Ja l).takeWhile dgt,L9 c:=Lh _
 have j:∀ neg a b,Form l neg a b->neg=B3c l/\a=(Ja l).takeWhile dgt/\(if b=[] then [] else 47::b)=(Ja l).dropWhile dgt:=fun neg a b f=>f.parts
 have E:=A4w l
 show Br _ _ _
 have A:decide ([45] <+: l)=B3c l:=rfl
 rw [A]
 generalize B3c l=neg at *
 generalize (Ja l).takeWhile dgt=a at *
 generalize (Ja l).dropWhile dgt=r at *
 generalize Ja l=t at *
 subst x
 have H:((bs a).toList==({ data:=#[48] }:ByteArray).toList)=decide (a=[48]):=Na a [48]
 rw [H,W5,W5]
 refine B4 (fun Q=>?_) (fun Q=>?_)
 ·subst Q
  refine Br.not (Br.of (fun X=>?_) (fun X=>?_))
  ·refine hK0 ?_ _ _ []
   intro B p g f
   obtain ⟨rfl,rfl,_⟩:=j _ _ _ f
   rcases f.ha with d|d
   ·grind
   grind
  ·subst X
   by_cases W:r=[]
   ·subst W
    refine hK1 false [48] [] ⟨by assumption,o,by simp,by simp,.inr ⟨rfl,rfl,rfl⟩,by simp,by simp⟩
   ·rw [decide_eq_false W]
    refine hK0 ?_ _ _ []
    intro B p g f
    obtain ⟨rfl,rfl,w⟩:=j _ _ _ f
    rcases f.ha with d|d
    ·grind
    grind
 ·refine ⟨fun L T=>L=[.bool (decide (a=[]\/a.head? = some 48))]/\T=h,?_,?_⟩
  ·refine B4 (fun d=>⟨by simp [d],rfl⟩) (fun d=>?_)
   obtain ⟨c,i,rfl⟩:=aY d
   refine ⟨c,⟨o,by rfl⟩,?_,rfl⟩
   congr 2
   rw [cM,beq_iff_eq,decide_eq_true_iff]
   simp only [reduceCtorEq,false_or,dB,aW]
   constructor
   ·intro e;apply UInt8.toNat_inj.1;grind
   ·rintro rfl;rfl
  rintro F T ⟨hL,rfl⟩
  obtain rfl:F=decide (a=[]\/a.head? = some 48):=gz0
  refine B4 (fun d=>?_) (fun d=>?_)
  ·refine hK0 ?_ _ _ []
   intro B p g f
   obtain ⟨rfl,rfl,_⟩:=j _ _ _ f
   rcases d with d|d
   ·exact f.ne d
   ·rcases f.ha with w|w
    ·grind
    grind
  ·have k:a≠[]:=fun e=>d (.inl e)
   have u:a.head? ≠ some 48:=fun e=>d (.inr e)
   refine B4 (fun w=>?_) (fun w=>?_)
   ·exact hK1 neg a [] ⟨gz0,z,by simp,k,.inl u,by simp,by simp⟩
   ·obtain ⟨c,i,rfl⟩:=aY w
    refine ⟨c,⟨o,by rfl⟩,D6 (fun O=>?_) (fun O=>?_)⟩
    ·refine hK0 ?_ _ _ []
     intro B p g f
     obtain ⟨rfl,rfl,m⟩:=j _ _ _ f
     by_cases C:g=[]
     ·grind
     ·rw [iN C] at m
      simp at m
      exact O (by rw [<- m.1];rfl)
    ·have hc:c=47:=by apply UInt8.toNat_inj.1;grind
     subst hc
     refine ⟨⟨o,by rw [P3];grind⟩,?_⟩
     rw [T5,show ((1:Int)).toNat=1 from rfl,P3,aQ (by simp),List.drop_succ_cons,aZ]
     refine Jj gz0 ⟨_,_,rfl,?_⟩
     have S:i=i.takeWhile dgt++i.dropWhile dgt:=List.takeWhile_append_dropWhile.symm
     have D:∀ c∈i.takeWhile dgt,L9 c:=Lh _
     have N:∀ g:List UInt8,(∀ c∈g,L9 c)->g=i->i.takeWhile dgt=g/\i.dropWhile dgt=[]:=by
      intro g hd e
      have:=Et (r:=[]) hd (by simp)
      grind
     generalize i.takeWhile dgt=b at *
     generalize i.dropWhile dgt=s at *
     have no:(s≠[]\/b=[]\/b.head? = some 48\/b=[49])->∀ neg' p g,¬ Form (((if neg=true then [45] else [])++(a++47::i))) neg' p g:=by
      rintro y B p g f
      rw [<- E] at f
      obtain ⟨rfl,rfl,m⟩:=j _ _ _ f
      by_cases C:g=[]
      ·grind
      ·rw [iN C] at m
       simp at m
       obtain ⟨e6,e7⟩:=N g f.db m
       subst e6
       rcases y with n|n|n|n
       ·grind
       ·grind
       ·exact f.hb n
       ·exact f.b1 n
     rw [W5,W5]
     have G:((bs b).toList==({ data:=#[49] }:ByteArray).toList)=decide (b=[49]):=Na b [49]
     rw [G]
     refine B4 (fun n=>?_) (fun n=>hK0 gz0 _ _ _)
     refine Br.not (B4 (fun R=>hK0 gz0 _ _ _) (fun R=>?_))
     obtain ⟨c,r3,rfl⟩:=aY R
     refine ⟨c,⟨o,by rfl⟩,D6 (fun V=>?_) (fun V=>?_)⟩
     ·by_cases M:c::r3=[49]
      ·rw [decide_eq_true M]
       exact hK0 gz0 _ _ _
      ·rw [decide_eq_false M]
       refine hK1 neg a (c::r3) ⟨gz0,z,D,k,.inl u,?_,M⟩
       intro e;simp at e;exact V (by rw [e];rfl)
     ·have hh:(c::r3).head? = some 48:=by
       simp only [dB,aW]
       apply UInt8.toNat_inj.1;grind
      grind
end
def B4q:(prog.info? 178).map (fun i=>i.zero)=some (some (.agg (bZ 48 (.int .u8 0)))):=by kernel_rfl
def A1j{x y:Int}(hy:0<y):(cD x y).num=x.tdiv (aV x y)/\((cD x y).den:Int)=y.tdiv (aV x y):=by
 have b:(aV x y:Int)∣x:=Int.gcd_dvd_left ..
 have a:(aV x y:Int)∣y:=Int.gcd_dvd_right ..
 constructor
 ·rw [Rat.num_divInt,bO hy,Int.one_mul,Int.gcd_comm,dK b]
 ·rw [Rat.den_divInt,iN o,Int.gcd_comm,Int.natCast_ediv,Int.natAbs_of_nonneg o,dK a]
def Wt{q:Rat}(h:q.den=1):C0 q=Dn q.num:=by unfold C0;grind
def Zw{q:Rat}(h:q.den≠1):C0 q=Dn q.num++[47]++Dn (q.den:Int):=by
 unfold C0;rw [iN h,Ky (i:=(q.den:Int)) o,Int.natAbs_natCast];simp
section
variable {h g:aN} {K:VP} {l:List UInt8}
def C3j{k:Nat}(h:k<=18):10^k<=1000000000000000000:=cC (aJ dc h) dc
def Fn(hd:∀ c∈l,L9 c)(hl:l.length<=18)(hK:K (I (S6 l:Int)) h):aH prog 116 #[.string (bs l)] h K:=by
 refine (fnk func116 [(3,[3,7],[],[I 0,I 0])]) ?_
 simp only [P3]
 refine ⟨fun L g=>∃ k:Nat,L=[I (S6 (l.take k):Int),I k]/\g=h/\k<=l.length,fun L _=>l.length-(iAt L 1).toNat,⟨0,rfl,rfl,o⟩,?_⟩
 rintro n s g ⟨k,m,rfl,p⟩
 obtain ⟨rfl,rfl⟩:=m
 refine B4 (fun i=>?_) (fun i=>?_)
 ·have a:k<l.length:=o
  have d:=hd l[k] (cX a)
  have b:=Kg (l:=l.take (k+1)) (fun c j=>hd c (bX j))
  rw [cV,Nat.min_eq_left o] at b
  have r:=C3j (k:=k+1) o
  have q:S6 (l.take (k+1))=10*S6 (l.take k)+(l[k].toNat-48):=by rw [bN a,Mo]
  unfold L9 at d
  refine ⟨l[k],⟨o,by rw [aC,Wc,bH a]⟩,?_⟩
  have e:B9 (B9 (10*((S6 (l.take k):Nat):Int))+B9 (wu8 (((l[k].toNat:Nat):Int)-48)))=((S6 (l.take (k+1)):Nat):Int):=by
   rw [A4a o o,B5 (n:=((l[k].toNat:Nat):Int)-48) o o,B5 (n:=10*((S6 (l.take k):Nat):Int)) o o,B5 o o]
   omega
  rw [e,B5 (n:=(k:Int)+1) o o]
  exact ⟨⟨k+1,rfl,rfl,o⟩,by simp only [iAt,aF,aI];omega⟩
 grind
def Zz{a b:Nat}(hK:K (I (aT a b:Int)) h):aH prog 106 #[I (a:Int),I (b:Int)] h K:=by
 refine (fnk func106 [(1,[0,1],[],[I 0,I 0])]) ?_
 refine ⟨fun L c=>∃ x y:Nat,L=[I x,I y]/\c=h/\aT x y=aT a b,fun L _=>(iAt L 1).toNat,⟨a,b,rfl,rfl,rfl⟩,?_⟩
 rintro j i c ⟨x,y,m,rfl,l⟩
 obtain ⟨rfl,rfl⟩:j=(x:Int)/\i=(y:Int):=gz0
 refine D6 (fun d=>?_) (fun d=>?_)
 ·have k:y≠0:=o
  refine B4 (fun e=>absurd e d) (fun _=>?_)
  have g:=Nat.mod_lt x (Nat.pos_of_ne_zero k)
  refine ⟨⟨y,x%y,rfl,rfl,?_⟩,by assumption⟩
  rw [<- l,Nat.gcd_comm x y,Nat.gcd_rec y x,Nat.gcd_comm]
 simp_all
def Cz(hK1:∀ q,l=C0 q->q.num.natAbs<1000000000->q.den<1000000000->K (.tuple #[.agg #[I q.num,I (q.den:Int)],.bool true]) h)(hK0:K (.tuple #[.agg #[I 0,I 0],.bool false]) h):aH prog 52 #[.string (bs l)] h K:=by
 refine (fnk func52 (cs:=[(5,[29],[],[.bool false]),(11,[],[(2,2),(6,2)],[I 0,I 0,I 0,I 0]),(13,[],[(6,2)],[I 0,I 0])]) (own:=[2,4,6])) ?_
 rw [P3]
 refine B4 (fun _=>hK0) (fun N=>?_)
 refine Ns o ?_ ?_
 ·intro neg a b f
  refine ⟨_,_,_,_,rfl,?_⟩
  simp only [P3]
  refine ⟨fun L i=>L=[.bool (decide (a.length>9\/b.length>9))]/\i=h,Br.of (fun e=>by cases e) (fun _=>B4 (fun n=>⟨?_,rfl⟩) (fun n=>⟨?_,rfl⟩)),?_⟩
  ·grind
  ·by_cases z:b.length>9
   ·grind
   grind
  rintro g i ⟨B,rfl⟩
  obtain rfl:g=decide (a.length>9\/b.length>9):=gz0
  refine B4 (fun _=>hK0) (fun n=>?_)
  have r:(Qo neg a).natAbs=S6 a:=by unfold Qo;omega
  have C:=Kg f.da
  have u:=Kg f.db
  have F:∀ k,k<=9->10^k<=1000000000:=fun k x=>cC (aJ dc x) dc
  have E:=F a.length o
  refine Fn f.da o ⟨_,rfl,?_⟩
  refine ⟨fun L d=>L=[I 0,I 0,I (S6 a:Int),I (Kn b:Int)]/\d=i/\aT (S6 a) (Kn b)=1,?_,?_⟩
  ·rw [W5]
   refine Br.not (B4 (fun s=>?_) (fun s=>?_))
   ·subst s;exact ⟨rfl,rfl,by unfold Kn;simp⟩
   ·refine Fn f.db o ⟨_,rfl,Zz ⟨_,rfl,D6 (fun _=>hK0) (fun M=>?_)⟩⟩
    have G:Kn b=S6 b:=by unfold Kn;grind
    grind
  ·rintro D A H Q j ⟨m,rfl,w⟩
   obtain ⟨_,_,rfl,rfl⟩:=m
   obtain ⟨q,y⟩:=f.isNum.2 w
   have c:=f.of_txt y
   have p:Kn b<1000000000:=by unfold Kn;grind
   refine ⟨fun L d=>L=[I q.num,I (q.den:Int)]/\d=j,Br.of (fun e=>?_) (fun e=>?_),?_⟩
   ·rw [c.1,c.2,e,B5 o o]
    exact ⟨by unfold Qo;simp,rfl⟩
   ·rw [c.1,c.2,e]
    exact ⟨by rfl,rfl⟩
   grind
 ·intro O neg a b
  refine ⟨_,_,_,_,rfl,?_⟩
  refine ⟨fun L i=>L=[.bool true]/\i=h,Br.not ⟨rfl,rfl⟩,?_⟩
  rintro g i ⟨B,rfl⟩
  obtain rfl:g=true:=gz0
  exact Br.of (fun _=>hK0) (fun e=>by cases e)
def An{l':List UInt8}(hK1:∀ p q,l=C0 p->l'=C0 q->p.num.natAbs<1000000000->p.den<1000000000->q.num.natAbs<1000000000->q.den<1000000000->K (.tuple #[.agg #[I p.num,I (p.den:Int)],.agg #[I q.num,I (q.den:Int)],.bool true]) h)(hK0:K (.tuple #[.agg #[I 0,I 0],.agg #[I 0,I 0],.bool false]) h):aH prog 43 #[.string (bs l),.string (bs l')] h K:=by
 refine (fnk func43 (own:=[4,5,7,9])) ?_
 refine Cz ?_ ⟨_,_,_,rfl,Br.not hK0⟩
 intro p a e c
 refine ⟨_,_,_,rfl,Br.not ?_⟩
 refine Cz ?_ ⟨_,_,_,rfl,Br.not hK0⟩
 intro q b g d
 exact ⟨_,_,_,rfl,Br.not (hK1 p q a b e c g d)⟩
def V3{num den:Int}(gp:Gp h)(hd:den≠0)(h1:num.natAbs<4000000000000000000)(h2:den.natAbs<4000000000000000000)(hK:K (.string (bs (C0 (cD num den)))) h):aH prog 44 #[I num,I den] h K:=by
 refine FCall.pure ((fnk func44 (cs:=[(3,[0,1],[],[I 0,I 0]),(6,[0,1],[],[I 0,I 0])]) (wr:=[108])) ?_)
 refine ⟨fun L w=>w=h/\∃ n d:Int,L=[I n,I d]/\0<d/\cD n d=cD num den/\n.natAbs=num.natAbs/\d.natAbs=den.natAbs,B4 (fun l=>⟨rfl,-num,-den,?_,o,Rat.neg_divInt_neg num den,o,o⟩) (fun l=>⟨rfl,num,den,rfl,o,rfl,rfl,rfl⟩),?_⟩
 ·rw [B5 o o,B5 o o,Int.zero_sub,Int.zero_sub]
 rintro g p w ⟨rfl,n,d,O,r,N,hn,W⟩
 obtain ⟨rfl,rfl⟩:=O
 rw [<- N] at hK
 have i:=A1j (x:=g) r
 have R:=Tg (a:=g) (b:=p) o
 generalize cD g p=q at *
 refine ⟨fun L u=>u=w/\L=[I q.num,I (q.den:Int)],D6 (fun l=>?_) (fun l=>?_),?_⟩
 ·have B:(if (B9 (0-g))>g then B9 (0-g) else g)=((g.natAbs:Nat):Int):=by
   rw [B5 o o];omega
  obtain ⟨k,rfl⟩:∃ k:Nat,p=k:=⟨p.toNat,o⟩
  rw [B]
  refine Zz ⟨_,rfl,?_⟩
  have X:0<aT g.natAbs k:=Nat.gcd_pos_of_pos_right _ o
  refine B4 (fun e=>o) (fun _=>B4 (fun e=>o) (fun _=>⟨rfl,?_⟩))
  have C:cU g ((aT g.natAbs k:Nat):Int)=q.num:=i.1.symm
  have e4:cU (k:Int) ((aT g.natAbs k:Nat):Int)=(q.den:Int):=i.2.symm
  rw [C,e4,B5 o o,B5 o o]
 ·subst l
  have H:aV g 1=1:=by simp
  rw [H] at i
  grind
 rintro n2 d2 m ⟨rfl,z⟩
 obtain ⟨rfl,rfl⟩:=z
 refine C8 (fun l=>?_) (fun l=>?_)
 ·rw [Wt o] at hK
  exact Dd gp o o ⟨_,rfl,B0 _,hK⟩
 ·rw [Zw o] at hK
  refine T7 B4q ?_
  intro b F
  refine ⟨_,rfl,⟨o,o⟩,?_⟩
  have p0:bY (m.put b (.cells (aE 48 (aU .u8 0)).toArray 178)) m 178 1 (some ⟨b,0,none⟩) 0 48 (yv []):=⟨by simp [yv],o,.inr ⟨b,aE 48 (aU .u8 0),rfl,F,rfl,by simp,by simp [yv]⟩⟩
  refine Jn gp p0 o o o ?_
  intro A1 ab c1 B g1 T y
  refine ⟨_,_,_,rfl,?_⟩
  have aa:(Dn q.num).length<=20:=by
   unfold Dn
   have:(P5 q.num.natAbs).length<=19:=(V5 dc).2 (aR (show q.num.natAbs<10000000000000000000 from o) dc)
   grind
  have Q:=y.len
  refine Ew (ch:=47) rfl y.priv o ?_
  intro A2 E c2 e2 g2 S A
  have j:=y.trans A
  have s:=j.len
  rw [aL,cO] at s
  refine Jn (gp.mono j.le) A.priv o o o ?_
  intro A3 M c3 C g3 V G
  refine ⟨_,_,_,rfl,?_⟩
  have c:=j.trans G
  have D:=c.len
  refine Ld Gv.und Dm Z1 c.priv.slV gz0 ⟨_,rfl,?_⟩
  refine ⟨A0 c.le c.priv.le,?_⟩
  assumption
end
structure RQ (h:aN) (w:QV) (q:Rat):Prop where
 num:ZI h w.s w.A w.n w.c q.num
 den:ZI h w.s2 w.A2 w.n2 w.c2 (if q.den=1 then 0 else (q.den:Int))
def ZB.gcd{m:Nat}{x y:Int}(hy:y≠0)(h:ZB m y):ZB m (aV x y:Int):=by
 refine h.le ?_
 exact dI o (Int.natAbs_dvd_natAbs.2 (Int.gcd_dvd_right x y))
def B6u{x y a b:Int}(ha:0<a)(hb:0<b)(hs:x.sign≠y.sign):Bb (x*a) (y*b)=Bb x y:=by
 have c:(x*a).sign=x.sign:=by rw [Int.sign_mul,bO ha,Int.mul_one]
 have d:(y*b).sign=y.sign:=by rw [Int.sign_mul,bO hb,Int.mul_one]
 have key:∀ u v:Int,u.sign≠v.sign->(u<v↔u.sign<v.sign)/\(v<u↔v.sign<u.sign):=by
  grind
 have e:=key x y hs
 have g:=key (x*a) (y*b) o
 unfold Bb
 omega
section
variable {h h':aN} {K:VP} {A B:Option aK} {n c n' c':Nat} {s s':Bool} {x y z:Int} {m:Nat} {p q:Rat} {a b w:QV} {l:List UInt8}
def RQ.mono(hl:h.le h')(i:RQ h w q):RQ h' w q:=⟨i.num.mono hl,i.den.mono hl⟩
def RQ.whole(i:ZI h s A n c z):RQ h ⟨s,A,n,c,false,none,0,0⟩ (z:Rat):=⟨by assumption,by simpa using ZI.zero⟩
def RQ.zero:RQ h ⟨false,none,0,0,false,none,0,0⟩ 0:=⟨ZI.zero,ZI.zero⟩
def O3(i:RQ h w q)(hK:K (.bool (decide (q.den=1))) h):aH prog 109 #[.agg #[.bool w.s2,.slice w.A2 w.n2 w.c2]] h K:=by
 refine F0 i.den ?_
 have:=q.den_nz
 simp_all
def S5(i:ZI h s A n c z)(j:ZI h s' B n' c' y)(h1:q.num=z)(h2:(q.den:Int)=y)(hK:∀ w,RQ h w q->K w.v h):aH prog 111 #[.agg #[.bool s,.slice A n c],.agg #[.bool s',.slice B n' c']] h K:=by
 subst h1 h2
 refine (fnk func111 (own:=[2,3,4])) ?_
 refine N6 j ⟨_,rfl,B4 (fun e=>?_) (fun e=>?_)⟩
 ·exact hK ⟨s,A,n,c,false,none,0,0⟩ ⟨i,by rw [iP o];exact ZI.zero⟩
 ·exact hK ⟨s,A,n,c,s',B,n',c'⟩ ⟨i,gz0⟩
def U6(i:RQ h w q)(hK:∀ s A n c h',h.le h'->ZI h' s A n c (q.den:Int)->K (.agg #[.bool s,.slice A n c]) h'):aH prog 82 #[w.v] h K:=by
 refine (fnk func82 (own:=[1,2])) ?_
 refine O3 i ⟨_,rfl,B4 (fun e=>?_) (fun e=>?_)⟩
 ·refine N5 dc dc ?_
  grind
 ·have:=i.den
  rw [iN e] at this
  exact hK _ _ _ _ _ (B0 _) this
def Tk(gl:Gtz h)(i:ZI h s A n c x)(j:ZI h s' B n' c' y)(hx:ZB m x)(hy:ZB m y)(hm:m<=6400000000)(hy0:0<y)(hK:∀ s1 A1 n1 c1 s2 A2 n2 c2 h',h.le h'->ZI h' s1 A1 n1 c1 (x.tdiv (aV x y))->ZI h' s2 A2 n2 c2 (y.tdiv (aV x y))->K (.tuple #[.agg #[.bool s1,.slice A1 n1 c1],.agg #[.bool s2,.slice A2 n2 c2]]) h'):aH prog 110 #[.agg #[.bool s,.slice A n c],.agg #[.bool s',.slice B n' c']] h K:=by
 refine (fnk func110 (os:=[(4,[0,1,3,4,2,5,6,7])]) (own:=[2,3,4,5,6])) ?_
 refine N6 j ⟨_,rfl,B4 (fun e=>?_) (fun e=>?_)⟩
 ·subst e
  have k:aV x 1=1:=by simp
  rw [k] at hK
  exact hK _ _ _ _ _ _ _ _ _ (B0 _) gz0 (by assumption)
 ·refine Ai gl i j hx hy o ?_
  intro A1 n1 c1 u d i1
  have k:=Int.gcd_pos_of_ne_zero_right x (show y≠0 from o)
  have a:ZB m (aV x y:Int):=ZB.gcd o hy
  refine ⟨_,_,_,_,rfl,P0 (i.mono d) i1 hx a hm o ?_⟩
  intro s2 A2 n2 c2 r b p
  refine ⟨_,_,_,_,rfl,b,P0 (j.mono (A0 d b)) (i1.mono b) hy a hm o ?_⟩
  intro q A3 z c3 w g l
  exact ⟨_,_,_,_,rfl,g,hK _ _ _ _ _ _ _ _ _ (A0 d (A0 b g)) (p.mono g) l⟩
def Vi(i:RQ h w q)(hK:∀ w',RQ h w' (-q)->K w'.v h):aH prog 182 #[w.v] h K:=by
 refine B96 _ _ _ _ _ _ _ _ ?_
 refine U5 i.num ?_
 intro a b
 exact ⟨_,_,_,_,rfl,B0 _,hK ⟨a,w.A,w.n,w.c,w.s2,w.A2,w.n2,w.c2⟩ ⟨by assumption,by simpa using i.den⟩⟩
def Bz(i:RQ h w q)(hK:K (I q.num.sign) h):aH prog 38 #[w.v] h K:=by
 refine B4u _ _ _ _ _ _ _ _ ?_
 exact O9 i.num ⟨_,rfl,hK⟩
def V9(i:RQ h w q)(hK:K (.bool (decide (q=0))) h):aH prog 140 #[w.v] h K:=by
 refine (fnk func140 (own:=[1])) ?_
 refine F0 i.num ⟨_,rfl,?_⟩
 simp_all
def Du(gl:Gtz h)(i:RQ h a p)(j:RQ h b q)(hp:Sz m p)(hq:Sz m q)(hm:2*m+1<=6400000000)(hK:∀ w h',h.le h'->RQ h' w (p+q)->K w.v h'):aH prog 101 #[a.v,b.v] h K:=by
 have aq:=q.den_nz
 have M:∀ {z:Int},ZB m z->ZB (2*m+1) z:=fun C=>C.mono o
 refine B99 _ _ _ _ _ _ _ _ _ _ _ _ _ _ _ _ ?_
 refine ⟨fun L hp=>L=[.bool (decide (p.den=1/\q.den=1))]/\hp=h,O3 i ⟨_,rfl,B4 (fun e=>?_) (fun e=>?_)⟩,?_⟩
 ·exact O3 j ⟨_,rfl,by simp [e],rfl⟩
 ·grind
 rintro af ai ⟨hL,rfl⟩
 obtain rfl:af=decide (p.den=1/\q.den=1):=gz0
 refine B4 (fun e=>?_) (fun e=>?_)
 ·refine Dj i.num j.num hp.num hq.num o ?_
  intro s1 A1 n1 c1 h1 l i1
  refine ⟨_,_,_,_,rfl,hK ⟨s1,A1,n1,c1,false,none,0,0⟩ _ l ?_⟩
  have:=RQ.whole i1
  rw [Rat.intCast_add,<- Vz e.1,<- Vz e.2] at this
  exact this
 ·refine ⟨fun L hp=>L=[.bool (decide (p.den=1))]/\hp=ai,O3 i ⟨_,rfl,rfl,rfl⟩,?_⟩
  rintro ad au ⟨hL,rfl⟩
  obtain rfl:ad=decide (p.den=1):=gz0
  refine B4 (fun Q=>?_) (fun Q=>?_)
  ·have al:q.den≠1:=fun X=>e ⟨Q,X⟩
   have jd:=j.den
   rw [iN al] at jd
   refine F7 i.num jd hp.num hq.den o ?_
   intro s1 A1 n1 c1 h1 l i1
   refine ⟨_,_,_,_,rfl,l,Dj (m:=2*m+1) i1 (j.num.mono l) ((hp.num.mul hq.den).mono o) (M hq.num) o ?_⟩
   intro s2 A2 n2 c2 h2 n i2
   have c:=Nc q p.num
   rw [<- Vz Q,Rat.add_comm] at c
   refine ⟨_,_,_,_,rfl,n,hK ⟨s2,A2,n2,c2,b.s2,b.A2,b.n2,b.c2⟩ _ (A0 l n) ⟨gz0,?_⟩⟩
   rw [c.2]
   exact j.den.mono (A0 l n)
  ·refine O3 j ⟨_,rfl,B4 (fun X=>?_) (fun X=>?_)⟩
   ·have k:=i.den
    rw [iN Q] at k
    refine F7 j.num k hq.num hp.den o ?_
    intro s1 A1 n1 c1 h1 l i1
    refine ⟨_,_,_,_,rfl,l,Dj (m:=2*m+1) i1 (i.num.mono l) ((hq.num.mul hp.den).mono o) (M hp.num) o ?_⟩
    intro s2 A2 n2 c2 h2 n i2
    have c:=Nc p q.num
    rw [<- Vz X] at c
    refine ⟨_,_,_,_,rfl,n,hK ⟨s2,A2,n2,c2,a.s2,a.A2,a.n2,a.c2⟩ _ (A0 l n) ⟨gz0,?_⟩⟩
    rw [c.2]
    exact i.den.mono (A0 l n)
   ·have k:=i.den
    have u:=j.den
    rw [iN Q] at k
    rw [iN X] at u
    refine Ai gl k u hp.den hq.den o ?_
    intro A1 n1 c1 h1 l G
    rw [dM] at G
    obtain ⟨g,hg⟩:∃ g,g=p.den.gcd q.den:=⟨_,rfl⟩
    rw [<- hg] at G
    have ae:0<g:=gz0
    have ac:g∣q.den:=by rw [hg];exact cF ..
    have y:ZB m (g:Int):=hq.den.le (by simpa using dI o ac)
    refine ⟨_,_,_,_,rfl,P0 (u.mono l) G hq.den y o o ?_⟩
    intro s2 A2 n2 c2 h2 n il
    rw [<- bC] at il
    refine ⟨_,_,_,_,rfl,n,P0 (k.mono (A0 l n)) (G.mono n) hp.den y o o ?_⟩
    intro s3 A3 n3 c3 h3 O ir
    rw [<- bC] at ir
    have F:ZB m ((q.den/g:Nat):Int):=hq.den.le (by exact bI _ _)
    have x:ZB m ((p.den/g:Nat):Int):=hp.den.le (by exact bI _ _)
    have E:=A0 l (A0 n O)
    refine ⟨_,_,_,_,rfl,O,F7 (i.num.mono E) (il.mono O) hp.num F o ?_⟩
    intro s4 A4 n4 c4 h4 D i4
    refine ⟨_,_,_,_,rfl,D,F7 (j.num.mono (A0 E D)) (ir.mono D) hq.num x o ?_⟩
    intro s5 A5 n5 c5 h5 H i5
    refine ⟨_,_,_,_,rfl,H,Dj (m:=2*m) (i4.mono H) i5 ((hp.num.mul F).mono o) ((hq.num.mul x).mono o) o ?_⟩
    intro s6 A6 n6 c6 h6 W N
    obtain ⟨z,C⟩:∃ z,z=p.num*((q.den/g:Nat):Int)+q.num*((p.den/g:Nat):Int):=⟨_,rfl⟩
    rw [<- C] at N
    have R:ZB (2*m+1) z:=by
     rw [C]
     exact ((hp.num.mul F).mono (show m+m<=2*m from o)).add ((hq.num.mul x).mono (show m+m<=2*m from o))
    have d:=A0 E (A0 D (A0 H W))
    refine ⟨_,_,_,_,rfl,W,F0 N ⟨_,rfl,B4 (fun S=>?_) (fun S=>?_)⟩⟩
    ·have:p+q=0:=by
      rw [<- cZ]
      by_cases ab:p.den.gcd q.den=1
      ·have:=(Wg p q ab).1
       grind
      ·have:=(Wf p q ab hg C rfl).1
       rw [this,S];simp
     rw [this] at hK
     exact hK ⟨false,none,0,0,false,none,0,0⟩ _ d RQ.zero
    ·refine N6 (G.mono (A0 n (A0 O (A0 D (A0 H W))))) ⟨_,rfl,B4 (fun ag=>?_) (fun ag=>?_)⟩
     ·have s:g=1:=o
      have c:=Wg p q o
      rw [s,Nat.div_one,Nat.div_one] at C
      refine F7 (k.mono d) (u.mono d) hp.den hq.den o ?_
      intro s7 A7 n7 c7 h7 A T
      refine ⟨_,_,_,_,rfl,A,S5 (q:=p+q) (N.mono A) T o o ?_⟩
      intro w iw
      exact ⟨_,_,_,_,_,_,_,_,rfl,B0 _,hK _ _ (A0 d A) iw⟩
     ·have s:p.den.gcd q.den≠1:=o
      obtain ⟨r,hr⟩:∃ r,r=z.natAbs.gcd g:=⟨_,rfl⟩
      have c:=Wf p q s hg C hr
      have ar:0<r:=gz0
      have av:r<=g:=by rw [hr];exact dI ae (cF ..)
      have ak:=G.mono (A0 n (A0 O (A0 D (A0 H W))))
      refine Ai (gl.mono d) N ak R (M y) o ?_
      intro A7 n7 c7 h7 A T
      have e7:aV z (g:Int)=r:=hr.symm
      rw [e7] at T
      have aa:ZB m (r:Int):=y.le o
      refine ⟨_,_,_,_,rfl,P0 (N.mono A) T R (M aa) hm o ?_⟩
      intro s8 A8 n8 c8 h8 V i8
      refine ⟨_,_,_,_,rfl,V,P0 (u.mono (A0 d (A0 A V))) (T.mono V) hq.den aa o o ?_⟩
      intro s9 A9 n9 c9 h9 l9 i9
      rw [<- bC] at i9
      have aj:ZB m ((q.den/r:Nat):Int):=hq.den.le (by exact bI _ _)
      refine ⟨_,_,_,_,rfl,l9,F7 (ir.mono (A0 D (A0 H (A0 W (A0 A (A0 V l9)))))) i9 x aj o ?_⟩
      intro an A10 ap am ao B ah
      refine ⟨_,_,_,_,rfl,B,S5 (q:=p+q) (i8.mono (A0 l9 B)) ah c.1 o ?_⟩
      intro w iw
      exact ⟨_,_,_,_,_,_,_,_,rfl,B0 _,hK _ _ (A0 d (A0 A (A0 V (A0 l9 B)))) iw⟩
def Vh(gl:Gtz h)(i:RQ h a p)(j:RQ h b q)(hp:Sz m p)(hq:Sz m q)(hm:2*m+1<=6400000000)(hK:∀ w h',h.le h'->RQ h' w (p-q)->K w.v h'):aH prog 104 #[a.v,b.v] h K:=by
 refine B95 _ _ _ _ _ _ _ _ _ _ _ _ _ _ _ _ ?_
 refine Vi j ?_
 intro d c
 refine ⟨_,_,_,_,_,_,_,_,rfl,B0 _,Du gl i c hp hq.neg hm ?_⟩
 grind
end
structure Gl (h:aN):Prop where
 tz:Gtz h
 p10:Gp h
def Gl.mono{h h':aN}(g:Gl h)(l:h.le h'):Gl h':=⟨g.tz.mono l,g.p10.mono l⟩
section
variable {h h':aN} {K:VP} {A B:Option aK} {n c n' c':Nat} {s s':Bool} {x y z:Int} {m:Nat} {p q:Rat} {a b w:QV} {l:List UInt8}
def Io(gl:Gtz h)(i:RQ h a p)(j:RQ h b q)(hp:Sz m p)(hq:Sz m q)(hm:m<=6400000000)(hK:∀ w h',h.le h'->RQ h' w (p*q)->K w.v h'):aH prog 46 #[a.v,b.v] h K:=by
 have X:=p.den_nz
 have V:=q.den_nz
 refine B97 _ _ _ _ _ _ _ _ _ _ _ _ _ _ _ _ ?_
 refine ⟨fun L hp=>L=[.bool (decide (p.num=0\/q.num=0))]/\hp=h,F0 i.num ⟨_,rfl,B4 (fun e=>?_) (fun e=>?_)⟩,?_⟩
 ·grind
 ·exact F0 j.num ⟨_,rfl,by simp [e],rfl⟩
 rintro r x ⟨R,rfl⟩
 obtain rfl:r=decide (p.num=0\/q.num=0):=gz0
 refine B4 (fun e=>?_) (fun e=>?_)
 ·have:p*q=0:=by
   rw [cZ,cZ] at e
   grind
  rw [this] at hK
  exact hK ⟨false,none,0,0,false,none,0,0⟩ _ (B0 _) RQ.zero
 ·refine ⟨fun L hp=>L=[.bool (decide (p.den=1/\q.den=1))]/\hp=x,O3 i ⟨_,rfl,B4 (fun e=>?_) (fun e=>?_)⟩,?_⟩
  ·exact O3 j ⟨_,rfl,by simp [e],rfl⟩
  ·grind
  rintro n N ⟨R,rfl⟩
  obtain rfl:n=decide (p.den=1/\q.den=1):=gz0
  refine B4 (fun e=>?_) (fun e=>?_)
  ·refine F7 i.num j.num hp.num hq.num o ?_
   intro D A1 E c1 Q g i1
   refine ⟨_,_,_,_,rfl,hK ⟨D,A1,E,c1,false,none,0,0⟩ _ g ?_⟩
   have:=RQ.whole i1
   rw [Rat.intCast_mul,<- Vz e.1,<- Vz e.2] at this
   exact this
  ·have s:=A9f p q
   refine U6 j ?_
   intro D A1 E c1 Q g T
   refine ⟨_,_,_,_,rfl,g,Tk (gl.mono g) (i.num.mono g) T hp.num hq.den hm o ?_⟩
   intro s2 A2 n2 c2 s3 A3 n3 c3 h2 F B y
   have c:=A0 g F
   refine ⟨_,_,_,_,_,_,_,_,rfl,F,U6 (i.mono c) ?_⟩
   intro s4 A4 n4 c4 h4 d A
   refine ⟨_,_,_,_,rfl,d,Tk (gl.mono (A0 c d)) (j.num.mono (A0 c d)) A hq.num hp.den hm o ?_⟩
   intro s5 A5 n5 c5 s6 A6 n6 c6 h5 k C z
   have e1:aV p.num (q.den:Int)=aT p.num.natAbs q.den:=rfl
   have S:aV q.num (p.den:Int)=aT q.num.natAbs p.den:=rfl
   rw [e1] at B y
   rw [S] at C z
   rw [<- bC] at y z
   refine ⟨_,_,_,_,_,_,_,_,rfl,k,F7 (B.mono (A0 d k)) C hp.num.tdiv hq.num.tdiv o ?_⟩
   intro s7 A7 n7 c7 h7 l O
   have H:ZB m ((p.den/aT q.num.natAbs p.den:Nat):Int):=hp.den.le (by exact bI _ _)
   have W:ZB m ((q.den/aT p.num.natAbs q.den:Nat):Int):=hq.den.le (by exact bI _ _)
   refine ⟨_,_,_,_,rfl,l,F7 (z.mono l) (y.mono (A0 d (A0 k l))) H W o ?_⟩
   intro s8 A8 n8 c8 h8 u M
   refine ⟨_,_,_,_,rfl,u,S5 (q:=p*q) (O.mono u) M s.1 o ?_⟩
   intro w G
   exact ⟨_,_,_,_,_,_,_,_,rfl,B0 _,hK _ _ (A0 c (A0 d (A0 k (A0 l u)))) G⟩
def Lp(i:RQ h w q)(hK:∀ w h',h.le h'->RQ h' w q⁻¹->K w.v h'):aH prog 227 #[w.v] h K:=by
 refine (fnk func227 (os:=[(5,[0,3,4,1,2,5,6,7]),(6,[0,2,3,1,4,5])]) (own:=[1,2])) ?_
 refine O9 i.num ⟨_,rfl,C8 (fun e=>?_) (fun e=>?_)⟩
 ·have:q⁻¹=0:=by simp_all
  rw [this] at hK
  exact hK ⟨false,none,0,0,false,none,0,0⟩ _ (B0 _) RQ.zero
 ·have g:q.num≠0:=fun r=>e gz0
  refine C8 (fun d=>?_) (fun d=>?_)
  ·have j:q.num<0:=Int.sign_neg_iff.1 o
   refine U6 i ?_
   intro p A1 l c1 n a i1
   refine ⟨_,_,_,_,rfl,a,U5 i1 ?_⟩
   intro u m
   refine ⟨_,_,_,_,rfl,B0 _,U5 (i.num.mono a) ?_⟩
   intro s k
   refine ⟨_,_,_,_,rfl,B0 _,S5 (q:=q⁻¹) m k ?_ ?_ ?_⟩
   ·rw [Rat.num_inv,d];omega
   ·rw [Rat.den_inv,iN g];omega
   ·intro w c
    exact ⟨_,_,_,_,_,_,_,_,rfl,B0 _,hK _ _ a c⟩
  ·have b:0<q.num:=by
    grind
   refine U6 i ?_
   intro p A1 l c1 n a i1
   refine ⟨_,_,_,_,rfl,a,S5 (q:=q⁻¹) i1 (i.num.mono a) ?_ ?_ ?_⟩
   ·rw [Rat.num_inv,bO b,Int.one_mul]
   ·rw [Rat.den_inv,iN g];omega
   ·intro w c
    exact ⟨_,_,_,_,_,_,_,_,rfl,B0 _,hK _ _ a c⟩
def A5z(gl:Gtz h)(i:RQ h a p)(j:RQ h b q)(hp:Sz m p)(hq:Sz m q)(hm1:1<=m)(hm:m<=6400000000)(hK:∀ w h',h.le h'->RQ h' w (p/q)->K w.v h'):aH prog 262 #[a.v,b.v] h K:=by
 refine B98 _ _ _ _ _ _ _ _ _ _ _ _ _ _ _ _ ?_
 refine Lp j ?_
 intro k n c e
 refine ⟨_,_,_,_,_,_,_,_,rfl,c,Io (gl.mono c) (i.mono c) e hp (hq.inv hm1) hm ?_⟩
 intro r l d g
 exact ⟨_,_,_,_,_,_,_,_,rfl,d,hK _ _ (A0 c d) g⟩
def Pq(i:RQ h w q)(hq:Sz m q)(hm:m+1<=6400000000)(hK:∀ s A n c h',h.le h'->ZI h' s A n c q.floor->K (.agg #[.bool s,.slice A n c]) h'):aH prog 281 #[w.v] h K:=by
 have b:=q.den_nz
 refine (fnk func281 (own:=[1,2])) ?_
 rw [Rat.floor_def] at hK
 refine O3 i ⟨_,rfl,B4 (fun e=>?_) (fun e=>?_)⟩
 ·rw [e] at hK
  exact hK _ _ _ _ _ (B0 _) (by simpa using i.num)
 ·have a:=i.den
  rw [iN e] at a
  refine Tz i.num a hq.num hq.den hm o ?_
  intro k A1 g c1 j d i1
  exact ⟨_,_,_,_,rfl,hK _ _ _ _ _ d i1⟩
def A60(i:RQ h w q)(hq:Sz m q)(hm:m+1<=6400000000)(hK:∀ s A n c h',h.le h'->ZI h' s A n c q.ceil->K (.agg #[.bool s,.slice A n c]) h'):aH prog 284 #[w.v] h K:=by
 refine (fnk func284 (own:=[1,2])) ?_
 refine Vi i ?_
 intro e i1
 refine ⟨_,_,_,_,_,_,_,_,rfl,Pq i1 hq.neg hm ?_⟩
 intro j A2 l c2 k b d
 refine ⟨_,_,_,_,rfl,U5 d ?_⟩
 intro g a
 rw [<- dG] at a
 exact ⟨_,_,_,_,rfl,hK _ _ _ _ _ b a⟩
def A5c(p q:Rat):Int:=Bb (p.num*q.den) (q.num*p.den)
def Fd:A5c p q<0↔p<q:=by rw [cI];unfold A5c Bb;omega
def Oy:0<A5c p q↔q<p:=by rw [cI];unfold A5c Bb;omega
def Ht:A5c p q<=0↔p<=q:=by rw [<- Rat.not_lt,<- Oy];omega
def B8u:A5c p q=0↔p=q:=by rw [Rat.eq_iff_mul_eq_mul];unfold A5c Bb;omega
def X8(i:RQ h a p)(j:RQ h b q)(hp:Sz m p)(hq:Sz m q)(hm:2*m<=1152000000000000)(hK:K (I (A5c p q)) h):aH prog 58 #[a.v,b.v] h K:=by
 have A:=p.den_nz
 have x:=q.den_nz
 refine FCall.pure ((fnk func58 (cs:=[(2,[19],[],[.bool false])]) (os:=[(1,[0,1,2,3,4,5,6,7,8,9,11,10,12,13,14]),(3,[0,1,2,5,6,7,3,4,8,9,10,11])]) (own:=[2,3])) ?_)
 refine ⟨fun L hp=>L=[.bool (decide ((p.den=1/\q.den=1)\/p.num.sign≠q.num.sign))]/\hp=h,O3 i ⟨_,rfl,B0 _,B4 (fun e=>O3 j ⟨_,rfl,B0 _,B4 (fun k=>?_) (fun k=>?_)⟩) (fun e=>?_)⟩,?_⟩
 ·exact ⟨by simp [e,k],rfl⟩
 ·refine Bz i ⟨_,rfl,B0 _,Bz j ⟨_,rfl,B0 _,?_,rfl⟩⟩
  simp [k,bne]
  rw [cM];simp
 ·refine Bz i ⟨_,rfl,B0 _,Bz j ⟨_,rfl,B0 _,?_,rfl⟩⟩
  simp [e,bne]
  rw [cM];simp
 rintro n u ⟨w,rfl⟩
 obtain rfl:n=decide ((p.den=1/\q.den=1)\/p.num.sign≠q.num.sign):=by simpa using w
 refine B4 (fun e=>?_) (fun e=>?_)
 ·refine Em i.num j.num hp.num hq.num o ⟨_,rfl,B0 _,?_⟩
  have:Bb p.num q.num=A5c p q:=by
   unfold A5c
   rcases e with e|e
   ·rw [e.1,e.2];simp
   ·exact (B6u o o e).symm
  rw [this];exact hK
 ·refine U6 j ?_
  intro M A1 Q c1 H c r
  refine ⟨_,_,_,_,rfl,c,F7 (i.num.mono c) r hp.num hq.den o ?_⟩
  intro F A2 R c2 C g s
  refine ⟨_,_,_,_,rfl,g,U6 (i.mono (A0 c g)) ?_⟩
  intro O A3 D c3 N d y
  refine ⟨_,_,_,_,rfl,d,F7 (j.num.mono (A0 c (A0 g d))) y hq.num hp.den o ?_⟩
  intro B A4 E c4 G l z
  refine ⟨_,_,_,_,rfl,l,Em (m:=m+m) (s.mono (A0 d l)) z (hp.num.mul hq.den) (hq.num.mul hp.den) o ⟨_,rfl,B0 _,?_⟩⟩
  exact ⟨A0 c (A0 g (A0 d l)),hK⟩
def Ov{t:List UInt8}{k:Nat}(h:∀ c∈t,L9 c)(hk:t.length<=k):ZB (4*k) (S6 t:Int):=by
 exact aR (A3u h) (aJ dc o)
def Form.lens{neg:Bool}{a b:List UInt8}(f:Form l neg a b):a.length<=l.length/\b.length<=l.length:=by
 have:=congrArg List.length f.eq
 grind
def Q9(gl:Gtz h)(hl:l.length<=140737488351232)(hK1:∀ q,l=C0 q->∀ w h',h.le h'->RQ h' w q->K (.tuple #[w.v,.bool true]) h')(hK0:¬ IsNum l->∀ (w:QV) h',h.le h'->RQ h' w 0->K (.tuple #[w.v,.bool false]) h'):aH prog 36 #[.string (bs l)] h K:=by
 refine (fnk func36 (cs:=[(7,[],[(6,4)],[.bool false,.slice none 0 0,.bool false,.slice none 0 0])]) (own:=[2,4,6])) ?_
 refine Ns o ?_ ?_
 ·intro neg a b f
  refine ⟨_,_,_,_,rfl,Br.not ?_⟩
  have H:=f.lens
  refine Ip f.da o ?_
  intro A1 R c1 G s i1
  refine ⟨_,_,_,_,rfl,?_⟩
  refine ⟨fun L hp=>∃ i:Bool,L=[.bool i,.slice A1 R c1,.bool false,.slice none 0 0]/\hp=G/\ZI G i A1 R c1 (Qo neg a),Br.of (fun e=>?_) (fun e=>?_),?_⟩
  ·refine U5 i1 ?_
   intro i u
   exact ⟨_,_,_,_,rfl,i,rfl,rfl,by unfold Qo;grind⟩
  ·exact ⟨false,rfl,rfl,by unfold Qo;grind⟩
  rintro D p n d x2 W aa ab V ⟨i,M,rfl,u⟩
  simp only [List.cons.injEq,Value.slice.injEq,Value.bool.injEq,and_true] at M
  obtain ⟨rfl,⟨rfl,rfl,rfl⟩,rfl,rfl,rfl,rfl⟩:=M
  have j:(Qo neg a).natAbs=S6 a:=by unfold Qo;omega
  rw [W5]
  refine B4 (fun x=>?_) (fun x=>?_)
  ·subst x
   obtain ⟨q,g⟩:=f.isNum.2 (by unfold Kn;simp)
   obtain ⟨F,A⟩:=f.of_txt g
   refine hK1 q g ⟨D,p,n,d,false,none,0,0⟩ _ s ⟨gz0,?_⟩
   rw [A,show Kn []=1 from rfl,iP rfl];exact ZI.zero
  ·refine Ip f.db o ?_
   intro A4 S c4 h4 m N
   have C:ZB (4*l.length) (Qo neg a):=(Ov f.da (k:=l.length) o).le o
   refine ⟨_,_,_,_,rfl,Ai (gl.mono (A0 s m)) (u.mono m) N C (Ov f.db (k:=l.length) o) o ?_⟩
   intro A5 n5 c5 h5 r T
   refine ⟨_,_,_,_,rfl,N6 T ⟨_,rfl,?_⟩⟩
   have c:Kn b=S6 b:=by unfold Kn;grind
   have z:aV (Qo neg a) (S6 b:Int)=aT (S6 a) (Kn b):=by
    rw [c];show aT (Qo neg a).natAbs (S6 b)=_;rw [j]
   rw [z]
   refine Br.not (B4 (fun Q=>?_) (fun Q=>?_))
   ·obtain ⟨q,g⟩:=f.isNum.2 o
    obtain ⟨F,A⟩:=f.of_txt g
    have y:Kn b≠1:=by
     intro X
     have O:=Ms f.db x (.inl f.hb)
     rw [<- c,X] at O
     apply f.b1
     rw [<- O];simp [P5,As,N9,dch]
    refine hK1 q g ⟨D,p,n,d,false,A4,S,c4⟩ _ (A0 s (A0 m r)) ⟨by rw [F];exact u.mono (A0 m r),?_⟩
    rw [A,iN y,c];exact N.mono r
   ·refine hK0 ?_ ⟨false,none,0,0,false,none,0,0⟩ _ (A0 s (A0 m r)) RQ.zero
    intro B
    exact Q (by rw [f.isNum.1 B];rfl)
 ·intro hf neg a b
  refine ⟨_,_,_,_,rfl,Br.not ?_⟩
  refine hK0 ?_ ⟨false,none,0,0,false,none,0,0⟩ _ (B0 _) RQ.zero
  intro B
  obtain ⟨E,a',b',f⟩:=B.form
  grind
def L5(gl:Gtz h)(hl:l.length<=140737488351232)(hK:∀ w h',h.le h'->RQ h' w (rv l)->K w.v h'):aH prog 45 #[.string (bs l)] h K:=by
 refine (fnk func45 (own:=[2,3])) ?_
 refine Q9 gl hl ?_ ?_
 ·intro q e w a b i1
  exact ⟨_,_,_,_,_,_,_,_,_,rfl,hK w a b (by rw [e,C2];exact i1)⟩
 ·intro c w a b i1
  exact ⟨_,_,_,_,_,_,_,_,_,rfl,hK w a b (by rw [A4n c];exact i1)⟩
def I9(gp:Gp h)(i:RQ h w q)(hq:Sz m q)(hm:m<=40000000)(hK:K (.string (bs (C0 q))) h):aH prog 47 #[w.v] h K:=by
 refine FCall.pure ((fnk func47 (own:=[1])) ?_)
 refine O3 i ⟨_,rfl,B4 (fun e=>?_) (fun e=>?_)⟩
 ·rw [Wt e] at hK
  refine A2f i.num (fun g k=>?_) (fun g=>?_)
  ·refine ⟨_,_,rfl,Br.of (fun _=>(fnk func113) ?_) (fun e=>by cases e)⟩
   exact Dd gp g k ⟨_,rfl,_,rfl,B0 _,hK⟩
  ·refine ⟨_,_,rfl,Br.of (fun e=>by cases e) (fun _=>?_)⟩
   exact Gg gp i.num hq.num o ⟨_,rfl,B0 _,hK⟩
 ·rw [Zw e] at hK
  have c:=i.den
  rw [iN e] at c
  refine Gi (l:=[]) (eT:=5) gp (Priv.nil _ _ _ _) i.num hq.num o o ?_
  intro A1 E c1 C A g j
  refine ⟨_,_,_,rfl,?_⟩
  have u:(Dn q.num).length<=50000000:=by
   unfold Dn
   have:=Ki hq.num
   grind
  have s:=j.len
  refine Ew (ch:=47) rfl j.priv o ?_
  intro A2 F c2 z y k n
  have b:=j.trans n
  have d:=b.len
  rw [aL,cO] at d
  refine Gi (gp.mono b.le) n.priv (c.mono b.le) hq.den o o ?_
  intro A3 x c3 D G B r
  refine ⟨_,_,_,rfl,?_⟩
  have a:=b.trans r
  have p:=a.len
  refine Ld Gv.und Dm Z1 a.priv.slV gz0 ⟨_,rfl,?_⟩
  refine ⟨A0 a.le a.priv.le,?_⟩
  assumption
end
structure Tx (m:Nat) (l:List UInt8):Prop where
 len:l.length<=140737488351232
 sz:Sz m (rv l)
def B2a{m:Nat}{z:Int}(h:ZB m z):(Dn z).length<=m+2:=by
 have:=Ki h
 unfold Dn;grind
def X6{m:Nat}{q:Rat}(h:Sz m q):(C0 q).length<=2*m+4:=by
 have a:=B2a h.num
 have b:=Ki (n:=q.den) (m:=m) (by have:=h.den;assumption)
 unfold C0
 grind
def Tx.of{m:Nat}{q:Rat}(h:Sz m q)(hm:m<=40000000):Tx m (C0 q):=⟨by have:=X6 h;omega,by rw [C2];exact h⟩
def Fi{x y:Int}(hx:x.natAbs<1000000000)(hy:y.natAbs<1000000000):(x*y).natAbs<1000000000000000000:=by
 rw [Int.natAbs_mul]
 exact Nat.mul_lt_mul'' hx hy
def Zu(q:Rat):∃ c r,C0 q=c::r/\(c=45↔q<0):=by
 have f:=Gs q
 have a:C0 q≠[]:=by
  intro e
  have:=f.eq
  rw [e] at this
  have d:=f.ne
  have:=congrArg List.length this
  simp only [aL,List.length_nil] at this
  exact d (aO o)
 obtain ⟨c,r,e⟩:=aY a
 refine ⟨c,r,e,?_⟩
 have b:=f.head
 rw [e,dB,cM,decide_eq_true_iff,beq_iff_eq,aW] at b
 rw [<- b,cI];simp
def A4e{q:Rat}(h:q<0):C0 q=45::C0 (-q):=by
 have a:q.num<0:=by have:=(cI q 0).1 h;simp_all
 unfold C0
 rw [Rat.neg_num,Rat.neg_den,Rb a,Ky (i:= -q.num) o,Int.natAbs_neg];simp
def C61:rv [48]=0:=by
 rfl
def Rq:C0 0=[48]:=by rfl
def Bm{m:Nat}{q:Rat}(h:Sz m q):ZB m q.floor:=by
 rw [Rat.floor_def]
 exact h.num.le (Int.natAbs_ediv_le_natAbs _ _)
section
variable {h:aN} {K:VP} {m:Nat} {a b:List UInt8}
def V7(gl:Gl h)(hl:a.length<=140737488351232)(hK1:IsNum a->K (.bool true) h)(hK0:¬ IsNum a->K (.bool false) h):aH prog 20 #[.string (bs a)] h K:=by
 refine FCall.pure ((fnk func20 (os:=[(7,[0,1,3,4,2,5,6,7,8])]) (own:=[3,5])) ?_)
 refine Cz ?_ ?_
 ·intro q e _ _
  exact ⟨_,_,_,rfl,Br.of (fun _=>⟨B0 _,hK1 ⟨q,e⟩⟩) (fun e=>by cases e)⟩
 ·refine ⟨_,_,_,rfl,Br.of (fun e=>by cases e) (fun _=>?_)⟩
  refine Ns o ?_ ?_
  ·intro neg x y f
   refine ⟨_,_,_,_,rfl,Br.of (fun e=>by cases e) (fun _=>?_)⟩
   have j:=f.lens
   rw [W5]
   refine B4 (fun e=>?_) (fun e=>?_)
   ·subst e
    exact ⟨B0 _,hK1 (f.isNum.2 (by unfold Kn;simp))⟩
   ·refine Ip f.da o ?_
    intro A1 C c1 z d i1
    refine ⟨_,_,_,_,rfl,d,Ip f.db o ?_⟩
    intro A2 D c2 r b m
    refine ⟨_,_,_,_,rfl,b,Ai (gl.tz.mono (A0 d b)) (i1.mono b) m (Ov f.da (k:=a.length) o) (Ov f.db (k:=a.length) o) o ?_⟩
    intro A3 u c3 B l p
    refine ⟨_,_,_,_,rfl,l,N6 p ⟨_,rfl,B0 _,A0 d (A0 b l),?_⟩⟩
    rw [dM]
    have g:Kn y=S6 y:=by unfold Kn;grind
    by_cases n:aT (S6 x) (S6 y)=1
    ·rw [decide_eq_true o]
     exact hK1 (f.isNum.2 gz0)
    ·rw [decide_eq_false o]
     exact hK0 (fun c=>n (by rw [<- g];exact f.isNum.1 c))
  ·intro A neg x y
   refine ⟨_,_,_,_,rfl,Br.of (fun _=>⟨B0 _,hK0 ?_⟩) (fun e=>by cases e)⟩
   intro c
   obtain ⟨i,w,s,f⟩:=c.form
   grind
def B6w{q:Rat}(hq:q≠0)(hneg:¬ q<0):q.num.sign=1:=by
 have a:¬ q.num<0:=fun e=>hneg (by rw [cI];simp_all)
 have b:q.num≠0:=fun e=>hq (Rat.num_eq_zero.1 e)
 grind
def Va(gl:Gl h)(hl:a.length<=140737488351232)(hK:K (I (rv a).num.sign) h):aH prog 160 #[.string (bs a)] h K:=by
 refine (fnk func160) ?_
 have g:((bs a).toList==({ data:=#[48] }:ByteArray).toList)=decide (a=[48]):=Na a [48]
 rw [g]
 refine B4 (fun e=>?_) (fun e=>?_)
 ·subst e;rw [C61] at hK;exact hK
 ·refine V7 gl hl ?_ ?_
  ·rintro ⟨q,rfl⟩
   rw [C2] at hK
   have b:q≠0:=by rintro rfl;exact e Rq
   obtain ⟨c,r,k,j⟩:=Zu q
   refine ⟨_,rfl,Br.not ?_⟩
   refine ⟨c,⟨o,by rw [Wc,k];rfl⟩,C8 (fun i=>?_) (fun i=>?_)⟩
   ·have d:c=45:=by apply UInt8.toNat_inj.1;show c.toNat=45;omega
    have:=(cI q 0).1 (j.1 d)
    rw [Int.sign_eq_neg_one_of_neg (by simpa using this)] at hK
    exact hK
   ·have d:¬ q<0:=fun l=>i (by rw [j.2 l];rfl)
    rw [B6w b d] at hK
    exact hK
  ·intro m
   rw [A4n m] at hK
   exact ⟨_,rfl,Br.not hK⟩
def A7w(gl:Gl h)(hl:a.length<=140737488351232)(hK:K (.string (bs (C0 (-rv a)))) h):aH prog 153 #[.string (bs a)] h K:=by
 refine (fnk func153) ?_
 have d:((bs a).toList==({ data:=#[48] }:ByteArray).toList)=decide (a=[48]):=Na a [48]
 rw [d]
 refine B4 (fun e=>?_) (fun e=>?_)
 ·subst e;assumption
 ·refine V7 gl hl ?_ ?_
  ·rintro ⟨q,rfl⟩
   rw [C2] at hK
   have l:q≠0:=by rintro rfl;exact e Rq
   obtain ⟨c,r,j,m⟩:=Zu q
   refine ⟨_,rfl,Br.not ?_⟩
   refine ⟨c,⟨o,by rw [Wc,j];rfl⟩,C8 (fun g=>?_) (fun g=>?_)⟩
   ·have i:c=45:=by apply UInt8.toNat_inj.1;grind
    have b:=A4e (m.1 i)
    rw [b,P3]
    refine ⟨⟨o,gz0⟩,?_⟩
    rw [T5,show ((1:Int)).toNat=1 from rfl,aQ (by simp),List.drop_succ_cons,aZ]
    exact hK
   ·have i:¬ q<0:=fun p=>g (by simp_all)
    have k: -q<0:=by
     grind
    rw [A4e k,Rat.neg_neg] at hK
    refine ⟨?_,?_⟩
    ·show (((bs [45]).size+(bs (C0 q)).size:Nat):Int)<=_
     rw [P3,P3];grind
    assumption
  ·intro n
   rw [A4n n,Rat.neg_zero,Rq] at hK
   exact ⟨_,rfl,Br.not hK⟩
def K8(gl:Gl h)(ta:Tx m a)(tb:Tx m b)(hm:2*m<=1152000000000000)(hK:K (I (A5c (rv a) (rv b))) h):aH prog 21 #[.string (bs a),.string (bs b)] h K:=by
 refine FCall.pure ((fnk func21 (own:=[5,6])) ?_)
 refine An ?_ ?_
 ·intro p q j r i c n k
  rw [j,r,C2,C2] at hK
  refine ⟨_,_,_,_,_,rfl,Br.of (fun _=>(fnk func57) ?_) (fun e=>by cases e)⟩
  have u:=Fi i (show ((q.den:Nat):Int).natAbs<1000000000 by simpa using k)
  have w:=Fi n (show ((p.den:Nat):Int).natAbs<1000000000 by simpa using c)
  rw [B5 o o,B5 o o]
  exact B11 ⟨_,rfl,_,rfl,B0 _,hK⟩
 ·refine ⟨_,_,_,_,_,rfl,Br.of (fun e=>by cases e) (fun _=>?_)⟩
  refine L5 gl.tz ta.len ?_
  intro s i d i1
  refine ⟨_,_,_,_,_,_,_,_,rfl,L5 (gl.tz.mono d) tb.len ?_⟩
  intro x c g l
  refine ⟨_,_,_,_,_,_,_,_,rfl,X8 (i1.mono g) l ta.sz tb.sz o ⟨_,rfl,A0 d g,hK⟩⟩
def Gt(gl:Gl h)(ta:Tx m a)(tb:Tx m b)(hm:2*m+1<=40000000)(hK:K (.string (bs (C0 (rv a+rv b)))) h):aH prog 142 #[.string (bs a),.string (bs b)] h K:=by
 refine FCall.pure ((fnk func142 (own:=[5,6])) ?_)
 refine An ?_ ?_
 ·intro p q k u i l j z
  rw [k,u,C2,C2,Pe] at hK
  refine ⟨_,_,_,_,_,rfl,Br.of (fun _=>?_) (fun e=>by cases e)⟩
  have y:=Fi i (show ((q.den:Nat):Int).natAbs<1000000000 from o)
  have B:=Fi j (show ((p.den:Nat):Int).natAbs<1000000000 from o)
  have D:=Fi (show ((p.den:Nat):Int).natAbs<1000000000 from o) (show ((q.den:Nat):Int).natAbs<1000000000 from o)
  rw [B5 (n:=p.num*q.den) o o,B5 (n:=q.num*p.den) o o,B5 (n:=(p.den:Int)*q.den) o o,B5 o o]
  exact V3 gl.p10 (cL (dH p) (dH q)) o o ⟨_,rfl,B0 _,hK⟩
 ·refine ⟨_,_,_,_,_,rfl,Br.of (fun e=>by cases e) (fun _=>?_)⟩
  refine L5 gl.tz ta.len ?_
  intro x i d i1
  refine ⟨_,_,_,_,_,_,_,_,rfl,L5 (gl.tz.mono d) tb.len ?_⟩
  intro C l g s
  refine ⟨_,_,_,_,_,_,_,_,rfl,Du (gl.tz.mono (A0 d g)) (i1.mono g) s ta.sz tb.sz o ?_⟩
  intro A j w r
  have c:=A0 d (A0 g w)
  exact ⟨_,_,_,_,_,_,_,_,rfl,I9 (gl.p10.mono c) r (ta.sz.add tb.sz) o ⟨_,rfl,c,hK⟩⟩
def Rr(gl:Gl h)(ta:Tx m a)(tb:Tx m b)(hm:2*m+1<=40000000)(hK:K (.string (bs (C0 (rv a-rv b)))) h):aH prog 127 #[.string (bs a),.string (bs b)] h K:=by
 refine FCall.pure ((fnk func127 (own:=[5,6])) ?_)
 refine An ?_ ?_
 ·intro p q x r i k j C
  have w:p-q=cD (p.num*q.den-q.num*p.den) (p.den*q.den):=by
   rw [Rat.sub_eq_add_neg,Pe,Rat.neg_num,Rat.neg_den,Int.neg_mul,<- Int.sub_eq_add_neg]
  rw [x,r,C2,C2,w] at hK
  refine ⟨_,_,_,_,_,rfl,Br.of (fun _=>?_) (fun e=>by cases e)⟩
  have z:=Fi i (show ((q.den:Nat):Int).natAbs<1000000000 from o)
  have D:=Fi j (show ((p.den:Nat):Int).natAbs<1000000000 from o)
  have B:=Fi (show ((p.den:Nat):Int).natAbs<1000000000 from o) (show ((q.den:Nat):Int).natAbs<1000000000 from o)
  rw [B5 (n:=p.num*q.den) o o,B5 (n:=q.num*p.den) o o,B5 (n:=(p.den:Int)*q.den) o o,B5 o o]
  exact V3 gl.p10 (cL (dH p) (dH q)) o o ⟨_,rfl,B0 _,hK⟩
 ·refine ⟨_,_,_,_,_,rfl,Br.of (fun e=>by cases e) (fun _=>?_)⟩
  refine L5 gl.tz ta.len ?_
  intro y i d i1
  refine ⟨_,_,_,_,_,_,_,_,rfl,L5 (gl.tz.mono d) tb.len ?_⟩
  intro E k g l
  refine ⟨_,_,_,_,_,_,_,_,rfl,Vh (gl.tz.mono (A0 d g)) (i1.mono g) l ta.sz tb.sz o ?_⟩
  intro A j s u
  have c:=A0 d (A0 g s)
  exact ⟨_,_,_,_,_,_,_,_,rfl,I9 (gl.p10.mono c) u (ta.sz.sub tb.sz) o ⟨_,rfl,c,hK⟩⟩
def P1(gl:Gl h)(ta:Tx m a)(tb:Tx m b)(hm:2*m<=40000000)(hK:K (.string (bs (C0 (rv a*rv b)))) h):aH prog 17 #[.string (bs a),.string (bs b)] h K:=by
 refine FCall.pure ((fnk func17 (own:=[5,6])) ?_)
 refine An ?_ ?_
 ·intro p q k u i l j z
  rw [k,u,C2,C2,Og] at hK
  refine ⟨_,_,_,_,_,rfl,Br.of (fun _=>?_) (fun e=>by cases e)⟩
  have y:=Fi i j
  have C:=Fi (show ((p.den:Nat):Int).natAbs<1000000000 from o) (show ((q.den:Nat):Int).natAbs<1000000000 from o)
  rw [B5 (n:=p.num*q.num) o o,B5 (n:=(p.den:Int)*q.den) o o]
  exact V3 gl.p10 (cL (dH p) (dH q)) o o ⟨_,rfl,B0 _,hK⟩
 ·refine ⟨_,_,_,_,_,rfl,Br.of (fun e=>by cases e) (fun _=>?_)⟩
  refine L5 gl.tz ta.len ?_
  intro x i d i1
  refine ⟨_,_,_,_,_,_,_,_,rfl,L5 (gl.tz.mono d) tb.len ?_⟩
  intro B l g s
  refine ⟨_,_,_,_,_,_,_,_,rfl,Io (gl.tz.mono (A0 d g)) (i1.mono g) s ta.sz tb.sz o ?_⟩
  intro A j w r
  have c:=A0 d (A0 g w)
  exact ⟨_,_,_,_,_,_,_,_,rfl,I9 (gl.p10.mono c) r (ta.sz.mul tb.sz) o ⟨_,rfl,c,hK⟩⟩
def Lf(gl:Gl h)(ta:Tx m a)(tb:Tx m b)(hm1:1<=m)(hm:2*m<=40000000)(hK1:rv b≠0->K (.tuple #[.string (bs (C0 (rv a/rv b))),.bool true]) h)(hK0:rv b=0->K (.tuple #[.string (bs []),.bool false]) h):aH prog 201 #[.string (bs a),.string (bs b)] h K:=by
 refine FCall.pure ((fnk func201 (cs:=[(3,[22],[],[.bool false])]) (os:=[(7,[0,2,1,3,4,5,6])]) (own:=[6,7,9])) ?_)
 have c:∀ j,j=h->aH prog 45 #[.string (bs b)] j (fun R y=>∃ (t350:Bool) (t351A:Option aK) (t351n:Nat) (t351c:Nat) (t352:Bool) (t353A:Option aK) (t353n:Nat) (t353c:Nat),R= .agg #[.bool t350,.slice t351A t351n t351c,.bool t352,.slice t353A t353n t353c]/\aH prog 140 #[.agg #[.bool t350,.slice t351A t351n t351c,.bool t352,.slice t353A t353n t353c]] y (fun r3 l=>∃ (t37:Bool),r3= .bool t37/\Br t37 (h.le l/\K (.tuple #[.string ({ data:=#[] }:ByteArray),.bool false]) h)
  (aH prog 45 #[.string (bs a)] l (fun r4 i=>∃ (t390:Bool) (t391A:Option aK) (t391n:Nat) (t391c:Nat) (t392:Bool) (t393A:Option aK) (t393n:Nat) (t393c:Nat),r4= .agg #[.bool t390,.slice t391A t391n t391c,.bool t392,.slice t393A t393n t393c]/\Heap.le l i/\aH prog 262 #[.agg #[.bool t390,.slice t391A t391n t391c,.bool t392,.slice t393A t393n t393c],.agg #[.bool t350,.slice t351A t351n t351c,.bool t352,.slice t353A t353n t353c]] i (fun O g=>∃ (t410:Bool) (t411A:Option aK) (t411n:Nat) (t411c:Nat) (t412:Bool) (t413A:Option aK) (t413n:Nat) (t413c:Nat),O= .agg #[.bool t410,.slice t411A t411n t411c,.bool t412,.slice t413A t413n t413c]/\Heap.le i g/\aH prog 47 #[.agg #[.bool t410,.slice t411A t411n t411c,.bool t412,.slice t413A t413n t413c]] g (fun M u=>∃ (t42:ByteArray),M= .string t42/\Heap.le g u/\(h.le u/\K (.tuple #[.string t42,.bool true]) h))))))):=by
  rintro j rfl
  refine L5 gl.tz tb.len ?_
  intro T D w i1
  refine ⟨_,_,_,_,_,_,_,_,rfl,V9 i1 ⟨_,rfl,B4 (fun e=>⟨w,hK0 e⟩) (fun e=>?_)⟩⟩
  refine L5 (gl.tz.mono w) ta.len ?_
  intro w2 B x H
  refine ⟨_,_,_,_,_,_,_,_,rfl,x,A5z (gl.tz.mono (A0 w x)) H (i1.mono x) ta.sz tb.sz hm1 o ?_⟩
  intro W G F Q
  have s:=A0 w (A0 x F)
  exact ⟨_,_,_,_,_,_,_,_,rfl,F,I9 (gl.p10.mono s) Q (ta.sz.div tb.sz hm1) o ⟨_,rfl,B0 _,s,hK1 e⟩⟩
 refine An ?_ ?_
 ·intro p q S E D B G N
  refine ⟨_,_,_,_,_,rfl,fun L j=>L=[.bool (decide (q.num≠0))]/\j=h,Br.of (fun _=>⟨?_,rfl⟩) (fun e=>by cases e),?_⟩
  ·by_cases r:q.num=0<;>simp [r,bne]
  rintro k d ⟨z,rfl⟩
  obtain rfl:k=decide (q.num≠0):=by simpa using z
  refine B4 (fun r=>?_) (fun r=>c d rfl)
  have A:rv b≠0:=by rw [E,C2];exact fun e=>r (Rat.num_eq_zero.2 e)
  have C:=hK1 A
  rw [S,E,C2,C2,A6n] at C
  have V:=Fi D (show ((q.den:Nat):Int).natAbs<1000000000 by simpa using N)
  have X:=Fi (show ((p.den:Nat):Int).natAbs<1000000000 by simpa using B) G
  rw [B5 (n:=p.num*q.den) o o,B5 (n:=(p.den:Int)*q.num) o o]
  exact V3 gl.p10 (cL (dH p) r) o o ⟨_,rfl,B0 _,C⟩
 ·refine ⟨_,_,_,_,_,rfl,fun L j=>L=[.bool false]/\j=h,Br.of (fun e=>by cases e) (fun _=>⟨rfl,rfl⟩),?_⟩
  rintro k d ⟨z,rfl⟩
  obtain rfl:k=false:=by simpa using z
  exact Br.of (fun e=>by cases e) (fun _=>c d rfl)
def Rt(gl:Gl h)(ta:Tx m a)(hm:m+1<=40000000)(hK:K (.string (bs (Dn (rv a).floor))) h):aH prog 214 #[.string (bs a)] h K:=by
 refine FCall.pure ((fnk func214) ?_)
 refine L5 gl.tz ta.len ?_
 intro e j c i1
 refine ⟨_,_,_,_,_,_,_,_,rfl,Pq i1 ta.sz o ?_⟩
 intro g A2 k c2 i b d
 exact ⟨_,_,_,_,rfl,Gg (m:=m) (gl.p10.mono (A0 c b)) d (Bm ta.sz) o ⟨_,rfl,A0 c b,hK⟩⟩
def A5q(gl:Gl h)(ta:Tx m a)(hm:m+1<=40000000)(hK:K (.string (bs (Dn (rv a).ceil))) h):aH prog 225 #[.string (bs a)] h K:=by
 refine FCall.pure ((fnk func225) ?_)
 refine L5 gl.tz ta.len ?_
 intro e j c i1
 refine ⟨_,_,_,_,_,_,_,_,rfl,A60 i1 ta.sz o ?_⟩
 intro g A2 k c2 i b d
 refine ⟨_,_,_,_,rfl,Gg (m:=m) (gl.p10.mono (A0 c b)) d ?_ o ⟨_,rfl,A0 c b,hK⟩⟩
 rw [dG]
 exact (Bm ta.sz.neg).neg
end
def B4x(h:aN)(r:bM)(h':aN):Prop:=r= .bool true/\h.le h'
def Xf{x:List UInt8}{k:Nat}(hl:x.length<=k)(hk:1<=k):Sz (4*k) (rv x):=by
 by_cases d:IsNum x
 ·obtain ⟨neg,a,b,f⟩:=d.form
  obtain ⟨i,g⟩:=f.rv_num d
  have e:=f.lens
  have c:(Qo neg a).natAbs=S6 a:=by unfold Qo;split<;>simp
  refine ⟨?_,?_⟩
  ·rw [i];exact (Ov f.da (k:=k) o).le (by rw [c,Int.natAbs_natCast];exact bL _)
  ·rw [g]
   unfold Kn
   split
   ·exact ZB.one o
   ·exact Ov f.db o
 ·rw [A4n d];exact Sz.zero o
end Go.Proofs.YtbgkfnjmcjfokaaGreatDoor
namespace Go.Proofs.YtbgkfnjmcjfokaaGreatDoor
set_option maxRecDepth 20000
open Go Go.RowKit
def memOf(W:World):aN:=fun b=>W.heap[b]?
def frame_of{P:cQ}{f:FuncId}{args:Array bM}{W:World}(x:aH P f args (memOf W) (B4x (memOf W))):Calls P f args W fun e w'=>e= .returned (.bool true)/\Below W.heap.size W w':=by
 refine (x W (fun b o e=>e)).mono ?_
 rintro e W' ⟨r,l,i,⟨j,c⟩,a⟩
 subst j
 refine ⟨i,a.os,a.tape,a.output,a.size,fun k g=>?_⟩
 have d:memOf W k=some W.heap[k]:=Array.getElem?_eq_getElem g
 have:=a.sim k _ (c k _ d)
 rw [this];exact d.symm
def Oh{W:World}{a:aK}{v:bM}(e:W.cell? a=some v):(memOf W).cell? a=some v:=by
 unfold World.cell? at e
 unfold Heap.cell? memOf
 exact e
def open_ss{H:Type}{enc:aP × bM->H}{P:cQ}{W:World}{base:Nat}{sp:Nat->Bool}{held:Bool}{r:Reach}{b0:Nat}{t:aP}{f0 f1:Field}{v:bM}{d:DataW H}{ps:List MemPlace}(ht:P.underlying t=some (.struct #[f0,f1]))(u0:P.underlying f0.type=some .string)(u1:P.underlying f1.type=some .string)(hoff:f0.offset=0/\f1.offset=1/\P.cellsOf f0.type=1/\P.cellsOf f1.type=1/\P.cellsOf t=2)
 (hval:Value.okWide P W r b0 t v) (hd:DataW.Trod enc P W base sp held t v d ps):∃ x y:ByteArray,v= .agg #[.string x,.string y]/\d= .agg [.lit (.string x.data.toList),.lit (.string y.data.toList)]/\ps=[]/\x.size<=maxLen/\y.size<=maxLen:=by
 obtain ⟨C,z,c0,c1,D⟩:=hoff
 obtain ⟨a,rfl,c⟩:=WideShapes.okWide_struct ht hval
 obtain ⟨u,A⟩:=hd
 obtain ⟨G,E,n,k,F,m,s⟩:=ChangeShapes.trod_struct2 ht A
 rw [C,c0] at m
 rw [z,c1] at s
 obtain ⟨i,e,rfl,B⟩:=DataW.trod_string u0 m
 obtain ⟨j,g,rfl,w⟩:=DataW.trod_string u1 s
 rw [D] at c
 have l:a.toList=[.string i,.string j]:=by
  simp only [Value.cells] at e g
  have b:a.toList.length=2:=by simpa using c
  match hm:a.toList,b with
  | [p,q],_=>
   rw [hm] at e g
   simp at e g
   rw [e,g]
 have:a=#[.string i,.string j]:=by rw [<- Array.toArray_toList (xs:=a),l]
 subst this
 simp only [Prod.mk.injEq] at k
 exact ⟨i,j,rfl,k.1,by simpa using k.2,B,w⟩
def A51{P:cQ}{W:World}{x:String × DataW Unit}{rest:List (String × DataW Unit)}(h:laidMet P (x::rest) W):laidMet P rest W:=by
 obtain ⟨n,d⟩:=x
 obtain ⟨ps,⟨g,t,r,c,p,q,s,l,u,m,j,rfl⟩,e,i⟩:=h
 exact ⟨q,j,(List.nodup_append.1 e).2.1,fun b a k=>i b a (List.mem_append_right _ k)⟩
def C3k:List Int:=[0,1,28,2,29,14,24,3,30,22,20,15,25,17,4,8,31,27,13,23,21,19,16,7,26,12,18,6,11,5,10,9]
def B2j:List Int:=[0,1,56,2,57,49,28,3,61,58,42,50,38,29,17,4,62,47,59,36,45,43,51,22,53,39,33,30,24,18,12,5,63,55,48,27,60,41,37,16,46,35,44,21,52,32,23,11,54,26,40,15,34,20,31,10,25,14,19,9,13,8,7,6]
def B6o:List Int:=[1,10,100,1000,10000,100000,1000000,10000000,100000000,1000000000,10000000000,100000000000,1000000000000,10000000000000,100000000000000,1000000000000000,10000000000000000,100000000000000000,1000000000000000000,10000000000000000000]
def B5w:prog.globalNamed "math/bits.deBruijn64tab" = some 1:=by kernel_rfl
def B5x:prog.globalNamed "internal/strconv.uint64pow10" = some 0:=by kernel_rfl
def tabs_gl{W:World}(h:laidMet prog [("math/bits.deBruijn32tab",Rows.laid_math_bits_deBruijn32tab),("math/bits.deBruijn64tab",Rows.laid_math_bits_deBruijn64tab),("internal/strconv.uint64pow10",Rows.laid_internal_strconv_uint64pow10)] W):Gl (memOf W):=by
 have j:=A51 h
 have l:=A51 j
 have e:Lib.TabIs prog W "math/bits.deBruijn64tab" .u8 B2j:=Lib.tabIs_of_head (rest:=[("internal/strconv.uint64pow10",Rows.laid_internal_strconv_uint64pow10)]) B5w (by kernel_rfl) underlying349 underlying5 (by kernel_rfl) (by kernel_rfl) j
 have i:Lib.TabIs prog W "internal/strconv.uint64pow10" .u64 B6o:=Lib.tabIs_of_head (rest:=[]) B5x (by kernel_rfl) underlying341 underlying194 (by kernel_rfl) (by kernel_rfl) l
 have d:∀ k,k<64->A2m k<B2j.length/\B2j.getD (A2m k) 0=(k:Int):=by decide +kernel
 have g:∀ k,k<20->B6o.getD k 0=((10^k:Nat):Int):=by decide +kernel
 refine ⟨fun k c=>?_,fun k c=>?_⟩
 ·obtain ⟨a,b⟩:=d k c
  have:=Oh (e.cell B5w (A2m k) a)
  rw [D4,bK,cJ,this,b]
 ·have:=Oh (i.cell B5x k (by show k<20;exact c))
  rw [D4,bK,cJ,this,g k c]
def A9o(zs:List Int)(k:IntKind):Obj->Obj
 | .cells _ t frozen=>.cells (zs.map (aU k)).toArray t frozen
 | o=>o
def layTabs(a:Array Obj):Array Obj:=((a.modify 4 (A9o C3k .u8)).modify 1 (A9o B2j .u8)).modify 0 (A9o B6o .u64)
section
set_option maxRecDepth 100000
variable {h:aN} {K:VP}
end
section
set_option maxRecDepth 100000
variable {h:aN} {K:VP}
def Qh:cT prog 59 3 (I 0) 1 8:=⟨by kernel_rfl,by kernel_rfl,rfl,dc⟩
def Do:prog.cellsOf 3=1/\(prog.info? 3).isSome=true:=⟨by kernel_rfl,by kernel_rfl⟩
def B57:cT prog 54 83 (Qv false none 0 0 false none 0 0) 4 64:=⟨by kernel_rfl,by kernel_rfl,rfl,dc⟩
def Wz:prog.cellsOf 83=4/\(prog.info? 83).isSome=true:=⟨by kernel_rfl,by kernel_rfl⟩
def tZs:cT prog 72 76 (Zv false none 0 0) 2 32:=⟨by kernel_rfl,by kernel_rfl,rfl,dc⟩
def A2t:prog.cellsOf 76=2/\(prog.info? 76).isSome=true:=⟨by kernel_rfl,by kernel_rfl⟩
def Zg:∀ (args:Array bM) (W:World),(callFunc 309 args).run prog W= .ok (.enter 309 args) W:=call309
end
section
set_option maxRecDepth 100000
variable {h:aN} {K:VP}
def A79:cT prog 39 24 (.agg #[.string ({ data:=#[] }:ByteArray),.string ({ data:=#[] }:ByteArray)]) 2 32:=⟨by kernel_rfl,by kernel_rfl,rfl,dc⟩
def Rc:prog.cellsOf 24=2/\(prog.info? 24).isSome=true:=⟨by kernel_rfl,by kernel_rfl⟩
end
section
set_option maxRecDepth 100000
variable {h:aN} {K:VP}
end
section
set_option maxRecDepth 100000
variable {h:aN} {K:VP}
def A4k:cT prog 30 61 (.agg #[.string ({ data:=#[] }:ByteArray),N0]) 2 40:=⟨by kernel_rfl,by kernel_rfl,rfl,dc⟩
def A5r:prog.cellsOf 61=2/\(prog.info? 61).isSome=true:=⟨by kernel_rfl,by kernel_rfl⟩
def X7:cT prog 121 126 (.agg #[I 0,I 0,I 0,I 0,I 0,I 0,.bool false,Sl none 0 0,.bool false,Sl none 0 0]) 10 112:=⟨by kernel_rfl,by kernel_rfl,rfl,dc⟩
def Gu:prog.cellsOf 126=10/\(prog.info? 126).isSome=true:=⟨by kernel_rfl,by kernel_rfl⟩
def C3m:cT prog 145 39 (N0) 1 24:=⟨by kernel_rfl,by kernel_rfl,rfl,dc⟩
def A83:prog.cellsOf 39=1/\(prog.info? 39).isSome=true:=⟨by kernel_rfl,by kernel_rfl⟩
def A0h:prog.cellsOf 83=4/\(prog.info? 83).isSome=true:=⟨by kernel_rfl,by kernel_rfl⟩
end
def Us:List Int->Int->Int
 | [],d=>d
 | e::r,d=>if e<0\/e>24-d then -1 else Us r (d+e)
def A7c(xs:List Int):Int:=if xs.length>6 then -1 else Us xs 0
def Rm(xs:List Int):Bool:=decide (0<=A7c xs)
def A6p{xs:List Int}{k:Nat}{d:Int}(hk:k<xs.length):Us (xs.drop k) d=if xs.getD k 0<0\/xs.getD k 0>24-d then -1 else Us (xs.drop (k+1)) (d+xs.getD k 0):=by
 rw [bG hk,Us]
 simp [List.getD,hk]
def Yc{xs:List Int}{A:Option aK}{c:Nat}{h:aN}{K:VP}(s:SlI .i64 h A xs)(hK:K (I (A7c xs)) h):aH prog 136 #[.slice A xs.length c] h K:=by
 refine (fnk func136 [(5,[3,11],[],[I 0,I 0])]) ?_
 refine B4 (fun y=>?_) (fun y=>?_)
 ·have:xs.length>6:=o
  simpa [A7c,this] using hK
 ·have u:¬ xs.length>6:=o
  refine ⟨fun l r=>∃ (k:Nat) (d:Int),l=[I d,I k]/\k<=xs.length/\0<=d/\d<=24/\A7c xs=Us (xs.drop k) d/\r=h,fun l _=>xs.length-(iAt l 1).toNat,⟨0,0,rfl,o,o,o,by simp [A7c,u],rfl⟩,?_⟩
  rintro a i B ⟨k,d,w,C,z,q,e,rfl⟩
  obtain ⟨rfl,rfl⟩:a=d/\i=(k:Int):=by simpa using w
  refine B4 (fun x=>?_) (fun x=>?_)
  ·refine s.load rfl o o ?_
   have g:k<xs.length:=o
   rw [aC]
   have b:=A6p (d:=a) g
   have p:B9 (24-a)=24-a:=B5 o o
   refine B4 (fun m=>?_) (fun m=>?_)
   ·rw [e,b,iP (.inl m)] at hK;exact hK
   ·rw [p]
    refine B4 (fun j=>?_) (fun j=>?_)
    ·rw [e,b,iP (.inr j)] at hK;exact hK
    ·rw [B5 (n:=a+xs.getD k 0) o o,B5 (n:=(k:Int)+1) o o]
     refine ⟨⟨k+1,a+xs.getD k 0,by simp,o,o,o,?_,rfl⟩,by simp only [iAt,aI,aF];omega⟩
     rw [e,b,iN o]
  ·have:k=xs.length:=o
   subst this
   rw [e] at hK;simpa [Us] using hK
def Cn{xs:List Int}{A:Option aK}{c:Nat}{h:aN}{K:VP}(s:SlI .i64 h A xs)(hK:K (.bool (Rm xs)) h):aH prog 61 #[.slice A xs.length c] h K:=by
 refine (fnk func61) ?_
 exact Yc s ⟨_,rfl,by simpa [Rm] using hK⟩
def A2v{l:List Int}(h:∀ x∈l,0<=x):0<=l.sum:=by
 induction l with
 | nil=>simp
 | cons x l ih=>have:=ih (fun y a=>h y (by simp [a]));have:=h x (by simp);simp;omega
def Lj{xs:List Int}{k:Nat}(hk:k<xs.length):(xs.take (k+1)).sum=(xs.take k).sum+xs.getD k 0:=by
 rw [bN hk,List.sum_append];simp [List.getD,hk]
structure ExB (xs:List Int):Prop where
 len:xs.length<=6
 all:∀ x∈xs,0<=x/\x<=1048576
def B6q{l:List Int}(h:∀ x∈l,x<=1048576):l.sum<=1048576*(l.length:Int):=by
 induction l with
 | nil=>simp
 | cons x l ih=>have:=ih (fun y a=>h y (by simp [a]));have:=h x (by simp);simp only [List.sum_cons,cW];omega
def Ru{xs:List Int}(h:ExB xs)(k:Nat):0<=(xs.take k).sum/\(xs.take k).sum<=6291456:=by
 refine ⟨A2v fun x a=>(h.all x (bX a)).1,?_⟩
 have:=B6q (l:=xs.take k) fun x a=>(h.all x (bX a)).2
 have:=h.len
 have:(xs.take k).length<=6:=by simp;omega
 omega
def Hh(a b:List Int):Nat->Int
 | 0=>0
 | k+1=>if a.getD k 0≠b.getD k 0 then Bb (b.getD k 0) (a.getD k 0) else Hh a b k
def B3g(a b:List Int):Int:=if a.sum≠b.sum then Bb a.sum b.sum else Hh a b a.length
section
variable {h:aN} {K:VP} {a b:List Int} {A B:Option aK} {ac bc:Nat}
def Kc(hl:a.length=b.length)(va:ExB a)(vb:ExB b)(sa:SlI .i64 h A a)(sb:SlI .i64 h B b)(hK:K (I (B3g a b)) h):aH prog 139 #[.slice A a.length ac,.slice B b.length bc] h K:=by
 have C:=va.len
 refine (fnk func139 [(3,[5,6,12],[],[I 0,I 0,I 0]),(11,[9],[],[I 0])]) ?_
 refine ⟨fun l g=>∃ k:Nat,l=[I (a.take k).sum,I (b.take k).sum,I k]/\k<=a.length/\g=h,fun l _=>a.length-(iAt l 2).toNat,⟨0,by simp,o,rfl⟩,?_⟩
 rintro r D i e ⟨k,n,F,rfl⟩
 obtain ⟨rfl,rfl,rfl⟩:r=(a.take k).sum/\D=(b.take k).sum/\i=(k:Int):=by simpa using n
 have G:=Ru va (k+1)
 have E:=Ru vb (k+1)
 refine B4 (fun u=>?_) (fun u=>?_)
 ·refine sa.load rfl o o ?_
  refine sb.load rfl o o ?_
  rw [aC,<- Lj o,<- Lj o,B5 o o,B5 o o,B5 o o]
  exact ⟨⟨k+1,by simp,o,rfl⟩,by simp only [iAt,aI,aF];omega⟩
 ·have q:k=a.length:=o
  subst q
  rw [List.take_length,show b.take a.length=b by rw [hl];exact List.take_length]
  refine D6 (fun p=>Tj ⟨_,rfl,by simpa [B3g,p] using hK⟩) (fun p=>?_)
  have y:B3g a b=Hh a b a.length:=by simp [B3g,p]
  rw [y] at hK
  refine ⟨fun l g=>∃ k:Nat,l=[I ((k:Int)-1)]/\k<=a.length/\Hh a b a.length=Hh a b k/\g=e,fun l _=>(iAt l 0+1).toNat,⟨a.length,by rw [B5 o o],o,rfl,rfl⟩,?_⟩
  rintro i z ⟨k,d,s,c,rfl⟩
  obtain rfl:i=(k:Int)-1:=by simpa using d
  refine B4 (fun x=>?_) (fun x=>?_)
  ·obtain ⟨k,rfl⟩:∃ m,k=m+1:=⟨k-1,o⟩
   have w:((k+1:Nat):Int)-1=(k:Int):=o
   rw [w]
   refine sa.load rfl o o ?_
   refine sb.load rfl o o ?_
   rw [aC]
   refine D6 (fun j=>?_) (fun j=>?_)
   ·refine sb.load rfl o o ?_
    refine sa.load rfl o o ?_
    rw [aC]
    refine Tj ⟨_,rfl,B0 _,?_⟩
    rw [c,Hh,iP j] at hK;exact hK
   ·rw [B5 o o]
    refine ⟨⟨k,rfl,o,?_,rfl⟩,by simp only [iAt,aF];omega⟩
    rw [c,Hh,iN (by simpa using j)]
  ·have:k=0:=o
   subst this
   rw [c] at hK;exact hK
end
