/- A part. -/
import Derived.Test.YtdphgbjaijlckaaGreatDoorG11
import Derived.Test.YtdphgbjaijlckaaGreatDoorG09
open Go.Proofs.Tryz
set_option linter.all false
open _root_.Go.Addr renaming add->aQ
open _root_.Go.Instr renaming storeAt->aC,makeSlice->aM
open Int renaming mul_le_mul_of_nonneg_left->aD,toNat_natCast->aE,fdiv->aF,le_of_lt->aL,pow_succ->aU
open List renaming take_of_length_le->aI,length_take->aN,replicate->aP,drop_eq_getElem_cons->aS,getElem?_cons_zero->aT
open Nat renaming min_eq_left->aO
open _root_.Go renaming Program->aG,IntKind->aJ,Addr->aR
open _root_.Go.Proofs.YtdphgbjaijlckaaGreatDoor renaming Heap->aH,FCall->aK
namespace Go.Proofs.YtdphgbjaijlckaaGreatDoor
set_option maxRecDepth 20000
open Go
def val(B:Int):List Int->Int
 | []=>0
 | x::r=>x+B*val B r
def Dig(B:Int)(xs:List Int):Prop:=∀ x∈xs,0<=x/\x<B
def Norm(xs:List Int):Prop:=xs.getLast? ≠ some 0
def F0(B:Int):∀ xs ys:List Int,val B (xs++ys)=val B xs+B^xs.length*val B ys
 | [],ys=>by simp [val]
 | x::xs,ys=>by
  simp only [List.cons_append,val,F0 B xs ys,List.length_cons,aU]
  grind
def O5(B x:Int):val B [x]=x:=by simp [val]
def D8(B:Int)(xs:List Int)(x:Int):val B (xs++[x])=val B xs+B^xs.length*x:=by rw [F0,O5]
def S9(B:Int):∀ n,val B (aP n 0)=0
 | 0=>rfl
 | n+1=>by rw [List.replicate_succ];simp [val,S9 B n]
def Dig.nil{B:Int}:Dig B []:=fun x h=>by cases h
def Dig.append{B:Int}{xs ys:List Int}(h1:Dig B xs)(h2:Dig B ys):Dig B (xs++ys):=fun x h=>by
 rcases List.mem_append.1 h with h|h
 ·exact h1 x h
 ·exact h2 x h
def Dig.one{B x:Int}(h:0<=x/\x<B):Dig B [x]:=fun y a=>by grind
def Dig.take{B:Int}{xs:List Int}(h:Dig B xs)(n:Nat):Dig B (xs.take n):=fun x a=>h x (List.mem_of_mem_take a)
def Dig.drop{B:Int}{xs:List Int}(h:Dig B xs)(n:Nat):Dig B (xs.drop n):=fun x a=>h x (List.mem_of_mem_drop a)
def Dig.getD{B:Int}(hB:0<B){xs:List Int}(h:Dig B xs)(i:Nat):0<=xs.getD i 0/\xs.getD i 0<B:=by
 by_cases a:i<xs.length
 ·have e:xs.getD i 0=xs[i]:=gz0
  rw [e];exact h _ (List.getElem_mem a)
 grind
def Dig.set{B:Int}{xs:List Int}(h:Dig B xs){i:Nat}{v:Int}(hv:0<=v/\v<B):Dig B (xs.set i v):=fun x b=>by
 rcases List.mem_or_eq_of_mem_set b with a|a
 ·exact h x a
 omega
def F9{B:Int}(hB:0<B)(n:Nat):Dig B (aP n 0):=fun x a=>by
 grind
def C3{B:Int}(hB:0<B):∀ {xs:List Int},Dig B xs->0<=val B xs
 | [],_=>Int.le_refl _
 | x::xs,h=>by
  have h1:=h x (by simp)
  have a:=C3 hB (xs:=xs) fun y b=>h y (by simp [b])
  have:=Int.mul_nonneg (aL hB) a
  simp only [val];omega
def I6{B:Int}(hB:0<B):∀ {xs:List Int},Dig B xs->val B xs<B^xs.length
 | [],_=>by simp [val]
 | x::xs,h=>by
  have h1:=h x (by simp)
  have b:=I6 hB (xs:=xs) fun y a=>h y (by simp [a])
  have c:B*(val B xs+1)<=B*B^xs.length:=aD o (aL hB)
  simp only [val,List.length_cons,aU]
  grind
def C9{B:Int}(hB:0<B)(n:Nat):0<B^n:=Int.pow_pos hB
def Hu{xs:List Int}{i:Nat}(hi:i<xs.length):xs.take (i+1)=xs.take i++[xs.getD i 0]:=by
 simp_all
def J0(B:Int){xs:List Int}{i:Nat}(hi:i<xs.length):val B (xs.take (i+1))=val B (xs.take i)+B^i*xs.getD i 0:=by
 rw [Hu hi,D8,aN,aO o]
def C5{xs:List Int}{i:Nat}{v:Int}(hi:i<xs.length):(xs.set i v).take (i+1)=xs.take i++[v]:=by
 rw [List.take_succ_eq_append_getElem gz0]
 simp [List.take_set_of_le]
def E5(B:Int)(xs:List Int){i:Nat}(hi:i<=xs.length):val B xs=val B (xs.take i)+B^i*val B (xs.drop i):=by
 have h:=F0 B (xs.take i) (xs.drop i)
 simp_all
def Norm.nil:Norm []:=by simp [Norm]
def Oa{xs:List Int}{x:Int}(h:x≠0):Norm (xs++[x]):=by simp [Norm,h]
def Vz{B:Int}(hB:0<B){xs:List Int}(h:Dig B xs)(hn:Norm xs)(hl:xs.length≠0):B^(xs.length-1)<=val B xs:=by
 obtain ⟨n,hn1⟩:∃ n,xs.length=n+1:=⟨xs.length-1,o⟩
 have a:xs.getD n 0≠0:=by
  intro b
  apply hn
  grind
 have e:=h.getD hB n
 have c:=J0 B (xs:=xs) (i:=n) o
 have d:=C3 hB (h.take n)
 have:B^n*1<=B^n*xs.getD n 0:=aD o (aL (C9 hB n))
 grind
def Qc{B:Int}(hB:0<B){xs:List Int}(h:Dig B xs)(hn:Norm xs):val B xs=0↔xs.length=0:=by
 constructor
 ·intro e
  by_cases a:xs.length=0
  ·exact a
  ·have:=Vz hB h hn a
   have:=C9 hB (xs.length-1)
   omega
 ·intro e
  rw [List.eq_nil_of_length_eq_zero e];rfl
def C7{B:Int}(hB:0<B){m n:Nat}(h:m<=n):B^m<=B^n:=by
 obtain ⟨k,rfl⟩:=Nat.exists_eq_add_of_le h
 rw [Int.pow_add]
 have:B^m*1<=B^m*B^k:=aD (by have:=C9 hB k;omega) (aL (C9 hB m))
 omega
def Ci{B:Int}(hB:0<B){xs ys:List Int}(hx:Dig B xs)(hy:Dig B ys)(ny:Norm ys)(hl:xs.length<ys.length):val B xs<val B ys:=by
 have a:=I6 hB hx
 have b:=Vz hB hy ny o
 have c:=C7 hB (show xs.length<=ys.length-1 from o)
 omega
def Ch{B:Int}(hB:0<B){xs ys:List Int}(hx:Dig B xs)(hy:Dig B ys){i:Nat}(hi:i<xs.length)(hi2:i<ys.length)(he:xs.drop (i+1)=ys.drop (i+1))(hlt:xs.getD i 0<ys.getD i 0):val B xs<val B ys:=by
 rw [E5 B xs (show i+1<=xs.length from o),E5 B ys (show i+1<=ys.length from o),he,J0 B hi,J0 B hi2]
 have a:=I6 hB (hx.take i)
 have b:=C3 hB (hy.take i)
 have:B^i*(xs.getD i 0+1)<=B^i*ys.getD i 0:=aD o (aL (C9 hB i))
 grind
section
set_option maxRecDepth 100000
variable {h:aH} {K:VP}
def Gx:SliceT prog 40 173 (U32 (0:Int)) 1 4:=⟨by kernel_rfl,by kernel_rfl,rfl,dc⟩
def I4:prog.cellsOf 173=1/\(prog.info? 173).isSome=true:=⟨by kernel_rfl,by kernel_rfl⟩
def Ah:SliceT prog 166 5 (Y (0:Int)) 1 1:=⟨by kernel_rfl,by kernel_rfl,rfl,dc⟩
def Uc:prog.cellsOf 5=1/\(prog.info? 5).isSome=true:=⟨by kernel_rfl,by kernel_rfl⟩
def A59:SliceT prog 79 44 (Qv false none 0 0 false none 0 0) 4 64:=⟨by kernel_rfl,by kernel_rfl,rfl,dc⟩
def Nm:prog.cellsOf 44=4/\(prog.info? 44).isSome=true:=⟨by kernel_rfl,by kernel_rfl⟩
def L0:SliceT prog 52 9 (.string ({ data:=#[] }:ByteArray)) 1 16:=⟨by kernel_rfl,by kernel_rfl,rfl,dc⟩
def Bm:prog.cellsOf 9=1/\(prog.info? 9).isSome=true:=⟨by kernel_rfl,by kernel_rfl⟩
def Zx(P:aG)(w:OA)(x:Nat)(y:OA)(e:Nat)(j:OA)(k:Nat)(z:LP)(m:LN)(a:Int)(n:aH):Prop:=
 ∃ (l:LP) (o:LN),l [U 0,I 0] n/\
 ∀ d b c,l [U d,I b] c->Bd (b<(e:Int)) (∃ r,Ax w r a x <| ∃ f,c.cell? (r.add (a.toNat*1))=some (U32 f)/\∃ s,Ax y s b e <| ∃ g,c.cell? (s.add (b.toNat*1))=some (U32 g)/\∃ t,Ax j t (B7 (a+b)) k <| ∃ i,c.cell? (t.add ((B7 (a+b)).toNat*1))=some (U32 i)/\∃ u,Ax j u (B7 (a+b)) k<|wpH P (aC 173 (Pt (u.add ((B7 (a+b)).toNat*1))) (U32 (F6 (C1 (d+(C1 ((C1 ((C1 f)*(C1 g)))+(C1 i)))))))) (fun _ p=>l [U (aF (C1 (d+(C1 ((C1 ((C1 f)*(C1 g)))+(C1 i))))) (2^(min ((32:Int)).toNat 64))),I (B7 (b+1))] p/\o [U (aF (C1 (d+(C1 ((C1 ((C1 f)*(C1 g)))+(C1 i))))) (2^(min ((32:Int)).toNat 64))),I (B7 (b+1))] p<o [U d,I b] c) c)
 (∃ v,Ax j v (B7 (a+(e:Int))) k<|wpH P (aC 173 (Pt (v.add ((B7 (a+(e:Int))).toNat*1))) (U32 (F6 d))) (fun _ q=>z [I (B7 (a+1))] q/\m [I (B7 (a+1))] q<m [I a] n) c)
def A4t(P:aG)(m:OA)(a t:Nat)(n:OA)(b u:Nat)(h:aH)(K:VP):Prop:=
 Br ((a:Int)==0) (K (Sl none 0 0) h)
 (Br ((b:Int)==0) (K (Sl none 0 0) h)
 (wpH P (aM 40 (I (B7 ((a:Int)+(b:Int)))) (I (B7 ((a:Int)+(b:Int))))) (fun p q=>∃ d e i,p=Sl d e i/\∃ (c:LP) (o:LN),c [I 0] q/\
 ∀ f g,c [I f] g->Bd (f<(a:Int)) (Zx P m a n b d e c o f g)
 (aK P 200 #[Sl d e i] g (fun r s=>∃ j k l,r=Sl j k l/\K (Sl j k l) s))) h))
def Vk a b c d e f(hvc:A4t prog a b c d e f h K):aK prog 202 #[Sl a b c,Sl d e f] h K:=
 fnq func202 { loops:=[(5,⟨[6],[],[I 0],⟨([6,7,8]++Lrg 23 50),[]⟩⟩),(9,⟨[7,8],[],[U 0,I 0],⟨([7,8]++Lrg 29 36),[]⟩⟩)] } [] [] hvc
def Gg(P:aG)(j:OA)(a:Nat)(u:OA)(v:Nat)(k:Int)(l:Int)(m:Int)(w:Int)(x:Int)(n:LP)(y:aH):Prop:=
 ∃ (g:LP) (o:LN),g [U (C1 (Int.tdiv (bor .u64 (C1 ((C1 l)*2^(min ((32:Int)).toNat 64))) (C1 m)) (C1 w))),U (Int.tmod (bor .u64 (C1 ((C1 l)*2^(min ((32:Int)).toNat 64))) (C1 m)) (C1 x))] y/\
 ∀ b d c,g [U b,U d] c->∃ (i:LP),(Bd (b>=4294967296) (i [] c)
 (∃ p,Ax j p (B7 ((a:Int)-2)) a <| ∃ q,c.cell? (p.add ((B7 ((a:Int)-2)).toNat*1))=some (U32 q)/\∃ r,Ax u r (B7 ((B7 (k+(a:Int)))-2)) v <| ∃ s,c.cell? (r.add ((B7 ((B7 (k+(a:Int)))-2)).toNat*1))=some (U32 s)/\Bd ((C1 (b*(C1 q)))>(bor .u64 (C1 (d*2^(min ((32:Int)).toNat 64))) (C1 s))) (i [] c)
 (n [U b] c)))/\
 ∀ e,i [] e->∃ t,Ax j t (B7 ((a:Int)-1)) a <| ∃ f,e.cell? (t.add ((B7 ((a:Int)-1)).toNat*1))=some (U32 f)/\Bd ((C1 (d+(C1 f)))>=4294967296) (n [U (C1 (b-1))] e)
 (g [U (C1 (b-1)),U (C1 (d+(C1 f)))] e/\o [U (C1 (b-1)),U (C1 (d+(C1 f)))] e<o [U b,U d] c)
def Kk(P:aG)(t:OA)(d:Nat)(f:OA)(g:Nat)(b:Int)(u:Int)(v:LP)(w:aH):Prop:=
 ∃ (k:LP) (l:LN),k [U 0,I 0] w/\
 ∀ e a c,k [U e,I a] c->Bd (a<(d:Int)) (∃ n,Ax f n (B7 (a+b)) g <| ∃ i,c.cell? (n.add ((B7 (a+b)).toNat*1))=some (U32 i)/\∃ o,Ax t o a d <| ∃ j,c.cell? (o.add (a.toNat*1))=some (U32 j)/\∃ p,Ax f p (B7 (a+b)) g<|wpH P (aC 173 (Pt (p.add ((B7 (a+b)).toNat*1))) (U32 (F6 (C1 (e+(C1 ((C1 i)+(C1 j)))))))) (fun _ m=>k [U (aF (C1 (e+(C1 ((C1 i)+(C1 j))))) (2^(min ((32:Int)).toNat 64))),I (B7 (a+1))] m/\l [U (aF (C1 (e+(C1 ((C1 i)+(C1 j))))) (2^(min ((32:Int)).toNat 64))),I (B7 (a+1))] m<l [U e,I a] c) c)
 (∃ q,Ax f q (B7 (b+(d:Int))) g <| ∃ r,c.cell? (q.add ((B7 (b+(d:Int))).toNat*1))=some (U32 r)/\∃ s,Ax f s (B7 (b+(d:Int))) g<|wpH P (aC 173 (Pt (s.add ((B7 (b+(d:Int))).toNat*1))) (U32 (F6 (r+(F6 e))))) (fun _ x=>v [U (C1 (u-1))] x) c)
def Gi(P:aG)(c:OA)(d:Nat)(a:Int)(e:LP)(f:Int)(g:aH):Prop:=
 ∃ b,Ax c b a d<|wpH P (aC 173 (Pt (b.add (a.toNat*1))) (U32 (F6 f))) (fun _ i=>e [] i) g
def Gf(P:aG)(p:OA)(d:Nat)(j:OA)(k:Nat)(A:OA)(B:Nat)(b:Int)(C:LP)(e:Int)(D:aH):Prop:=
 ∃ (m:LP) (q:LN),m [U 0,U 0,I 0] D/\
 ∀ c f a g,m [U c,U f,I a] g->Bd (a<(d:Int)) (∃ t,Ax p t a d <| ∃ i,g.cell? (t.add (a.toNat*1))=some (U32 i)/\∃ u,Ax j u (B7 (a+b)) k <| ∃ l,g.cell? (u.add ((B7 (a+b)).toNat*1))=some (U32 l)/\∃ v,Ax j v (B7 (a+b)) k<|wpH P (aC 173 (Pt (v.add ((B7 (a+b)).toNat*1))) (U32 (F6 (C1 ((C1 ((C1 l)-(Mq .u64 (C1 ((C1 (e*(C1 i)))+c)) (4294967295:Int))))-f))))) (fun _ r=>m [U (aF (C1 ((C1 (e*(C1 i)))+c)) (2^(min ((32:Int)).toNat 64))),U (Mq .u64 (aF (C1 ((C1 ((C1 l)-(Mq .u64 (C1 ((C1 (e*(C1 i)))+c)) (4294967295:Int))))-f)) (2^(min ((32:Int)).toNat 64))) (1:Int)),I (B7 (a+1))] r/\q [U (aF (C1 ((C1 (e*(C1 i)))+c)) (2^(min ((32:Int)).toNat 64))),U (Mq .u64 (aF (C1 ((C1 ((C1 l)-(Mq .u64 (C1 ((C1 (e*(C1 i)))+c)) (4294967295:Int))))-f)) (2^(min ((32:Int)).toNat 64))) (1:Int)),I (B7 (a+1))] r<q [U c,U f,I a] g) g)
 (∃ w,Ax j w (B7 (b+(d:Int))) k <| ∃ o,g.cell? (w.add ((B7 (b+(d:Int))).toNat*1))=some (U32 o)/\∃ x,Ax j x (B7 (b+(d:Int))) k<|wpH P (aC 173 (Pt (x.add ((B7 (b+(d:Int))).toNat*1))) (U32 (F6 (C1 ((C1 ((C1 o)-c))-f))))) (fun _ s=>∃ (n:LP),(Br ((aF (C1 ((C1 ((C1 o)-c))-f)) (2^(min ((63:Int)).toNat 64)))==1) (Kk P p d j k b e n s)
 (n [U e] s))/\
 ∀ y z,n [U y] z->Gi P A B b C y z) g)
def Kl(P:aG)(a:OA)(b:Nat)(c:OA)(d:Nat)(e:OA)(f:Nat)(g:Int)(i:LP)(j:Int)(k:aH):Prop:=
 Gf P a b c d e f g i j k
def Km(P:aG)(d:LP)(b:LN)(a:Int)(e:aH)(c:aH):Prop:=
 d [I (B7 (a-1))] c/\b [I (B7 (a-1))] c<b [I a] e
def Ge(P:aG)(K:VP)(f:Int)(y:OA)(z A:Nat)(c:OA)(b B:Nat)(C:aH):Prop:=
 ∃ (g:LP) (i:LN),g [I 0] C/\
 ∀ a d,g [I a] d->Bd (a<(b:Int)) (∃ k,Ax c k a b <| ∃ l,d.cell? (k.add (a.toNat*1))=some (U32 l)/\Bd (f<0) False
 (∃ m,Ax c m a b<|wpH P (aC 173 (Pt (m.add (a.toNat*1))) (U32 (aF l (2^(min f.toNat 32))))) (fun _ e=>Bd ((B7 (a+1))<(b:Int)) (∃ n,Ax c n a b <| ∃ o,e.cell? (n.add (a.toNat*1))=some (U32 o)/\∃ p,Ax c p (B7 (a+1)) b <| ∃ q,e.cell? (p.add ((B7 (a+1)).toNat*1))=some (U32 q)/\Bd (C1 ((32:Int)-f)<0) False
 (∃ r,Ax c r a b<|wpH P (aC 173 (Pt (r.add (a.toNat*1))) (U32 (bor .u32 o (F6 (C1 ((C1 q)*2^(min (C1 ((32:Int)-f)).toNat 64))))))) (fun _ j=>g [I (B7 (a+1))] j/\i [I (B7 (a+1))] j<i [I a] d) e))
 (g [I (B7 (a+1))] e/\i [I (B7 (a+1))] e<i [I a] d)) d))
 (aK P 200 #[Sl y z A] d (fun D E=>∃ s t u,D=Sl s t u/\aK P 200 #[Sl c b B] E (fun F G=>∃ v w x,F=Sl v w x/\K (.tuple #[Sl s t u,Sl v w x]) G)))
def Kn(P:aG)(K:VP)(A:Int)(e:OA)(a:Nat)(d:OA)(f g:Nat)(k:OA)(l B:Nat)(C:LP)(D:LN)(b:Int)(c:aH):Prop:=
 Bd (b>=0) (∃ (m:LP),(∃ o,Ax d o (B7 (b+(a:Int))) f <| ∃ p,c.cell? (o.add ((B7 (b+(a:Int))).toNat*1))=some (U32 p)/\∃ q,Ax d q (B7 ((B7 (b+(a:Int)))-1)) f <| ∃ r,c.cell? (q.add ((B7 ((B7 (b+(a:Int)))-1)).toNat*1))=some (U32 r)/\∃ s,Ax e s (B7 ((a:Int)-1)) a <| ∃ i,c.cell? (s.add ((B7 ((a:Int)-1)).toNat*1))=some (U32 i)/\Bd (C1 i=0) False
 (∃ t,Ax e t (B7 ((a:Int)-1)) a <| ∃ j,c.cell? (t.add ((B7 ((a:Int)-1)).toNat*1))=some (U32 j)/\Bd (C1 j=0) False
 (∃ (n:LP),(Gg P e a d f b p r i j n c)/\
 ∀ u v,n [U u] v->Kl P e a d f k l b m u v)))/\
 ∀ w,m [] w->Km P C D b c w)
 ((0<=(a:Int)/\(a:Int)<=(g:Int))/\aK P 200 #[.slice (N3 d g 0 1) ((((a:Int)).toNat)-0) (g-0)] c (fun E F=>∃ x y z,E=Sl x y z/\Ge P K A k l B x y z F))
def Gh(P:aG)(K:VP)(f:Int)(g:OA)(b:Nat)(i:OA)(c j:Nat)(k:OA)(l m:Nat)(n:aH):Prop:=
 ∃ (a:LP) (o:LN),a [I (B7 ((B7 ((c:Int)-(b:Int)))-1))] n/\
 ∀ d e,a [I d] e->Kn P K f g b i c j k l m a o d e
def Zy(P:aG)(u:OA)(v w:Nat)(g:OA)(c x:Nat)(K:VP)(y:aH):Prop:=
 ∃ (f:LP) (i:LN),f [U 0] y/\
 ∀ a b,f [U a] b->∃ j,Ax g j (B7 ((c:Int)-1)) c <| ∃ k,b.cell? (j.add ((B7 ((c:Int)-1)).toNat*1))=some (U32 k)/\Bd (a<0) False
 (Bd ((F6 (k*2^(min a.toNat 32)))<2147483648) (f [U (C1 (a+1))] b/\i [U (C1 (a+1))] b<i [U a] b)
 (aK P 275 #[Sl g c x,U a] b (fun z A=>∃ l m n,z=Sl l m n/\aK P 200 #[Sl l m n] A (fun B C=>∃ o e H,B=Sl o e H/\aK P 275 #[Sl u v w,U a] C (fun D E=>∃ p d q,D=Sl p d q/\wpH P (aM 40 (I (B7 ((B7 ((B7 ((d:Int)-(e:Int)))-1))+1))) (I (B7 ((B7 ((B7 ((d:Int)-(e:Int)))-1))+1)))) (fun F G=>∃ r s t,F=Sl r s t/\Gh P K a o e p d q r s t G) E)))))
def A4u(P:aG)(a:OA)(b c:Nat)(f:OA)(d g:Nat)(h:aH)(K:VP):Prop:=
 aK P 225 #[Sl a b c,Sl f d g] h (fun B e=>∃ m,B=I m/\Bd (m<0) (wpH P (Instr.buildSlice 40 0 #[]) (fun C D=>∃ n o p,C=Sl n o p/\wpH P (Builtin.append_ #[40,40] 40 #[Sl n o p,Sl a b c]) (fun E F=>∃ q r s,E=Sl q r s/\K (.tuple #[Sl none 0 0,Sl q r s]) F) D) e)
 (Br ((d:Int)==1) (∃ t,Ax f t (0:Int) d <| ∃ u,e.cell? (t.add (((0:Int)).toNat*1))=some (U32 u)/\aK P 141 #[Sl a b c,U32 u] e (fun G H=>∃ (i:OA) (j k:Nat) (l:Int),G= .tuple #[Sl i j k,U32 l]/\wpH P (Instr.buildSlice 40 1 #[(0,U32 l)]) (fun L M=>∃ v w x,L=Sl v w x/\aK P 200 #[Sl v w x] M (fun N O=>∃ y z A,N=Sl y z A/\K (.tuple #[Sl i j k,Sl y z A]) O)) H))
 (Zy P a b c f d g K e)))
def Vl a b c d e f(hvc:A4u prog a b c d e f h K):aK prog 250 #[Sl a b c,Sl d e f] h K:=
 fnq func250 ⟨[(7,⟨[8],[],[U 0],⟨([8]++Lrg 49 11),[]⟩⟩),(15,⟨[14],[],[I 0],⟨(Lrg 14 11++Lrg 78 178),[]⟩⟩),(20,⟨[16,17],[],[U 0,U 0],⟨([16,17]++Lrg 115 36),[]⟩⟩),(26,⟨[18,19,20],[],[U 0,U 0,I 0],⟨([18,19,20,21,22]++Lrg 151 38),[]⟩⟩),(39,⟨[18,24],[],[U 0,I 0],⟨([18,24]++Lrg 212 29),[]⟩⟩),(48,⟨[26],[],[I 0],⟨([26]++Lrg 260 36),[]⟩⟩)],[(16,⟨[],[],[],⟨(Lrg 15 10++Lrg 82 174),[]⟩⟩),(21,⟨[],[],[],⟨(Lrg 115 24),[]⟩⟩),(24,⟨[16],[],[U 0],⟨([16,17]++Lrg 115 36),[]⟩⟩),(45,⟨[16],[],[U 0],⟨([16,18,24]++Lrg 207 44),[]⟩⟩)],[],[],[]⟩ [] [] hvc
end
def blk(k:aJ)(e:TypeId)(g:aH)(b:Nat)(zs:List Int):aH:=g.put b (.cells (zs.map (Value.int k)).toArray e)
def X9{k:aJ}{e:TypeId}{g:aH}{b:Nat}(hb:g b=none)(zs:List Int):g.le (blk k e g b zs):=Heap.le_put _ hb
def X8(k:aJ)(e:TypeId)(g:aH)(b:Nat)(zs:List Int):SlI k (blk k e g b zs) (some ⟨b,0,none⟩) zs:=SlI.new g b zs e _
def I0{P:aG}{k:aJ}{t e:TypeId}{bytes:Nat}(s:SliceT P t e (.int k 0) 1 bytes){n:Int}(h0:0<=n)(h2:n*bytes<=281474976710656)(h3:n<=9223372036854775807){K:VP}{h:aH}
 (x:∀ b,h b=none->K (.slice (some ⟨b,0,none⟩) n.toNat n.toNat) (blk k e h b (aP n.toNat 0))):wpH P (aM t (I n) (I n)) K h:=by
 refine Yb s h0 (Int.le_refl n) h2 h3 ?_
 intro b a
 have:=x b a
 unfold blk at this
 rw [List.map_replicate] at this
 rw [show (Value.int k 0).cells=#[.int k 0] from rfl,Np]
 exact this
def L9{P:aG}{t:TypeId}(one:P.cellsOf t=1/\(P.info? t).isSome=true){k:aJ}{n i:Int}{g:aH}{b:Nat}{e:TypeId}{zs:List Int}(hi:i.toNat<zs.length){K:Unit->aH->Prop}
 (x:K () (blk k e g b (zs.set i.toNat n))):wpH P (aC t (.pointer (some (aQ ⟨b,0,none⟩ (i.toNat*1)))) (.int k n)) K (blk k e g b zs):=by
 refine Wo one gz0 ?_
 unfold blk at x
 simp_all
def Mag(k:aJ)(B:Int)(h:aH)(A:Option aR)(len:Nat)(n:Int):Prop:=∃ xs:List Int,len=xs.length/\SlI k h A xs/\Dig B xs/\Norm xs/\val B xs=n
def Mag.mono{k:aJ}{B:Int}{h h':aH}(hl:h.le h'){A:Option aR}{len:Nat}{n:Int}(m:Mag k B h A len n):Mag k B h' A len n:=by
 obtain ⟨b,a,c,d⟩:=m;exact ⟨b,a,c.mono hl,d⟩
def Mag.zero{k:aJ}{B:Int}{h:aH}{A:Option aR}:Mag k B h A 0 0:=⟨[],rfl,SlI.nil,Dig.nil,Norm.nil,rfl⟩
def Mag.nonneg{k:aJ}{B:Int}(hB:0<B){h:aH}{A:Option aR}{len:Nat}{n:Int}(m:Mag k B h A len n):0<=n:=by
 obtain ⟨b,_,_,a,_,rfl⟩:=m;exact C3 hB a
def Mag.len_zero{k:aJ}{B:Int}(hB:0<B){h:aH}{A:Option aR}{len:Nat}{n:Int}(m:Mag k B h A len n):n=0↔len=0:=by
 obtain ⟨c,rfl,_,b,a,rfl⟩:=m;exact Qc hB b a
def Mag.lt{k:aJ}{B:Int}(hB:0<B){h:aH}{A:Option aR}{len:Nat}{n:Int}(m:Mag k B h A len n):n<B^len:=by
 obtain ⟨b,rfl,_,a,_,rfl⟩:=m;exact I6 hB a
def Mag.ge{k:aJ}{B:Int}(hB:0<B){h:aH}{A:Option aR}{len:Nat}{n:Int}(m:Mag k B h A len n)(hl:len≠0):B^(len-1)<=n:=by
 obtain ⟨c,rfl,_,b,a,rfl⟩:=m;exact Vz hB b a hl
def Mag.len_le{k:aJ}{B:Int}(hB:1<B){h:aH}{A:Option aR}{len:Nat}{n:Int}(m:Mag k B h A len n){j:Nat}(hn:n<B^j):len<=j:=by
 by_cases b:len=0
 ·omega
 ·have c:=m.ge o b
  by_cases a:len<=j
  ·exact a
  ·have:=C7 (B:=B) o (show j<=len-1 from o)
   omega
abbrev b32:Int:=4294967296
abbrev Mg(h:aH)(A:Option aR)(len:Nat)(n:Int):Prop:=Mag .u32 b32 h A len n
section
variable {h g:aH} {K:VP} {A B:Option aR} {ac bc:Nat}
def Ng{xs:List Int}(s:SlI .u32 h A xs)(hc:xs.length<=ac)(hl:xs.length<=100000000000000)(hK:∀ m,m<=xs.length->Norm (xs.take m)->val b32 (xs.take m)=val b32 xs->K (.slice A m ac) h):aK prog 200 #[.slice A xs.length ac] h K:=by
 refine (fnk func200 [(1,[0],[],[.slice none 0 0])]) ?_
 refine ⟨fun l g=>∃ m:Nat,l=[.slice A m ac]/\m<=xs.length/\g=h/\val b32 (xs.take m)=val b32 xs,fun l _=>match l with|[.slice _ m _]=>m|_=>0,⟨xs.length,rfl,Nat.le_refl _,rfl,by rw [List.take_length]⟩,?_⟩
 rintro A1 b c1 t ⟨m,k,f,rfl,c⟩
 obtain ⟨rfl,rfl,rfl⟩:A1=A/\b=m/\c1=ac:=gz0
 refine B5 (fun q=>?_) (fun q=>?_)
 ·obtain ⟨j,rfl⟩:∃ j,b=j+1:=⟨b-1,o⟩
  have e:B7 (((j+1:Nat):Int)-1)=(j:Int):=by rw [B6 o o];omega
  rw [e]
  obtain ⟨a,n,r⟩:=SlV.at s (i:=j) gz0
  have p:=J0 b32 (xs:=xs) (i:=j) o
  refine ⟨a,n,o,o,xs.getD j 0,gz0,?_⟩
  refine D5 (fun d=>?_) (fun d=>?_)
  ·refine ⟨⟨o,o⟩,⟨j,?_,o,rfl,?_⟩,?_⟩
   ·simp [F2]
   ·grind
   ·simp
  ·refine hK (j+1) f ?_ c
   rw [Hu o];exact Oa d
 ·have:b=0:=o
  subst this
  exact hK 0 o Norm.nil c
def R8{xs:List Int}(s:SlI .u32 h A xs)(hd:Dig b32 xs)(hc:xs.length<=ac)(hl:xs.length<=100000000000000)(hK:∀ m,m<=xs.length->Mg h A m (val b32 xs)->K (.slice A m ac) h):aK prog 200 #[.slice A xs.length ac] h K:=by
 refine Ng s hc hl ?_
 intro m a d b
 refine hK m a ⟨xs.take m,gz0,?_,hd.take m,d,b⟩
 have:=s.cut (c:=ac) (l:=0) (m:=m) o a hc
 simpa [F2] using this
def Rk{x y:Int}{an bn:Nat}(ma:Mg h A an x)(mb:Mg h B bn y)(hl:an<=100000000000000)(hK:K (I (if x<y then -1 else if x>y then 1 else 0)) h):aK prog 225 #[.slice A an ac,.slice B bn bc] h K:=by
 obtain ⟨a,rfl,q,c,C,rfl⟩:=ma
 obtain ⟨g,rfl,m,b,t,rfl⟩:=mb
 refine (fnk func225 [(6,[5],[],[I 0])]) ?_
 refine K8 (fun u=>B5 (fun f=>?_) (fun f=>?_)) (fun u=>?_)
 ·have:=Ci dc c b t o
  grind
 ·have:=Ci dc b c C o
  grind
 ·have p:a.length=g.length:=o
  refine ⟨fun l r=>∃ k:Nat,l=[I ((k:Int)-1)]/\k<=a.length/\r=h/\a.drop k=g.drop k,fun l _=>(iAt l 0+1).toNat,⟨a.length,?_,Nat.le_refl _,rfl,?_⟩,?_⟩
  ·rw [B6 o o]
  ·grind
  rintro i E ⟨k,z,D,rfl,d⟩
  obtain rfl:i=(k:Int)-1:=gz0
  refine B5 (fun f=>?_) (fun f=>?_)
  ·obtain ⟨j,rfl⟩:∃ j,k=j+1:=⟨k-1,o⟩
   have e:((j+1:Nat):Int)-1=(j:Int):=o
   rw [e]
   refine q.load rfl o o ?_
   refine m.load rfl o o ?_
   rw [aE]
   refine K8 (fun w=>?_) (fun w=>?_)
   ·refine q.load rfl o o ?_
    refine m.load rfl o o ?_
    rw [aE]
    refine B5 (fun n=>?_) (fun n=>?_)
    ·have:=Ch dc c b (i:=j) o o d n
     grind
    ·have:=Ch dc b c (i:=j) o o d.symm o
     grind
   ·rw [B6 o o]
    refine ⟨⟨j,rfl,o,rfl,?_⟩,by simp only [iAt,aT];omega⟩
    rw [aS (show j<a.length from o),aS (show j<g.length from o),d]
    grind
  ·have s:k=0:=o
   grind
end
def C2(B:Int)(xs:List Int)(i:Nat):val B (xs.take (i+1))=val B (xs.take i)+B^i*xs.getD i 0:=by
 by_cases a:i<xs.length
 ·exact J0 B a
 ·rw [aI o,aI o]
  grind
def Kz{c:Int}:aF c (2^(min ((32:Int)).toNat 64))=c/4294967296:=by
 grind
def T6{xs:List Int}(d:Dig b32 xs)(i:Nat):0<=xs.getD i 0/\xs.getD i 0<4294967296:=d.getD dc i
def Xw(c:Int):0<=c%4294967296/\c%4294967296<b32:=⟨Int.emod_nonneg _ dc,Int.emod_lt_of_pos _ dc⟩
def Qj{xs:List Int}{i j:Nat}{v:Int}(h:i≠j):(xs.set i v).getD j 0=xs.getD j 0:=by
 grind
def S3{B P v c:Int}:v+P*(c%B)+c/B*(P*B)=v+P*c:=by
 have:=Int.emod_add_mul_ediv c B
 grind
section
variable {h g:aH} {K:VP} {A B:Option aR} {ac bc:Nat}
def Ru{x y:Int}{an bn:Nat}(ma:Mg h A an x)(mb:Mg h B bn y)(hab:bn<=an)(hl:an<=18000000000000)(hK:∀ A' m c' h',h.le h'->m<=c'->Mg h' A' m (x+y)->K (.slice A' m c') h'):
 wpH prog (aM 40 (I (B7 ((an:Int)+1))) (I (B7 ((an:Int)+1)))) (fun v hp1=>∃ (t18A:Option aR) (t18n:Nat) (t18c:Nat),v= .slice t18A t18n t18c/\∃ (Invv:LP) (muv:LN),Invv [U (0:Int),I (0:Int)] hp1/\
 ∀ (c:Int) (i:Int),∀ hp2,Invv [U c,I i] hp2->Br (decide (i<((an:Nat):Int))) (∃ a2,A=some a2/\0<=i/\i<((an:Nat):Int)/\∃ (t29:Int),Heap.cell? hp2 (aQ a2 ((i).toNat*1))=some (U32 t29)/\∃ (Jv1:LP),(Br (decide (i<((bn:Nat):Int))) (∃ a3,B=some a3/\0<=i/\i<((bn:Nat):Int)/\∃ (t40:Int),Heap.cell? hp2 (aQ a3 ((i).toNat*1))=some (U32 t40)/\Jv1 [U (C1 ((C1 (c+(C1 t29)))+(C1 t40)))] hp2)
 (Jv1 [U (C1 (c+(C1 t29)))] hp2))/\
 ∀ (c1:Int),∀ hp3,Jv1 [U c1] hp3->∃ a4,t18A=some a4/\0<=i/\i<((t18n:Nat):Int)/\wpH prog (aC 173 (.pointer (some (aQ a4 ((i).toNat*1)))) (U32 (F6 c1))) (fun _ hp4=>Invv [U (aF c1 (2^(min ((32:Int)).toNat 64))),I (B7 (i+(1:Int)))] hp4/\muv [U (aF c1 (2^(min ((32:Int)).toNat 64))),I (B7 (i+(1:Int)))] hp4<muv [U c,I i] hp2) hp3)
 (∃ a5,t18A=some a5/\0<=((an:Nat):Int)/\((an:Nat):Int)<((t18n:Nat):Int)/\wpH prog (aC 173 (.pointer (some (aQ a5 ((((an:Nat):Int)).toNat*1)))) (U32 (F6 c))) (fun _ hp5=>aK prog 200 #[.slice t18A t18n t18c] hp5 (fun r hp6=>∃ (t57A:Option aR) (t57n:Nat) (t57c:Nat),r= .slice t57A t57n t57c/\K (.slice t57A t57n t57c) hp6)) hp2)) h:=by
 obtain ⟨a,rfl,G,T,nx,rfl⟩:=ma
 obtain ⟨d,rfl,z,M,W,rfl⟩:=mb
 have N:B7 ((a.length:Int)+1)=(a.length:Int)+1:=B6 o o
 rw [N]
 refine I0 Gx o o o ?_
 intro b t
 have F:((a.length:Int)+1).toNat=a.length+1:=o
 rw [F]
 refine ⟨_,_,_,rfl,?_⟩
 refine ⟨fun l h'=>∃ (k:Nat) (c:Int) (zs:List Int),l=[U c,I k]/\k<=a.length/\zs.length=a.length+1/\Dig b32 zs/\(0<=c/\c<=1)/\h'=blk .u32 173 h b zs/\val b32 (zs.take k)+c*b32^k=val b32 (a.take k)+val b32 (d.take k),fun l _=>a.length-(iAt l 1).toNat,⟨0,0,_,rfl,o,by simp,F9 dc _,o,rfl,by rfl⟩,?_⟩
 rintro c i hp ⟨k,c',zs,S,V,E,q,hc,rfl,Q⟩
 obtain ⟨rfl,rfl⟩:c=c'/\i=(k:Int):=gz0
 have j:=X9 (k:=.u32) (e:=173) t zs
 refine B5 (fun D=>?_) (fun D=>?_)
 ·have gx:=T6 T k
  have X:=T6 M k
  have C:=C2 b32 a k
  have H:=C2 b32 d k
  refine (G.mono j).load rfl o o ?_
  rw [aE]
  refine ⟨fun l h'=>l=[U (c+a.getD k 0+d.getD k 0)]/\h'=blk .u32 173 h b zs,B5 (fun w=>?_) (fun w=>?_),?_⟩
  ·refine (z.mono j).load rfl o o ?_
   rw [aE]
   refine ⟨?_,rfl⟩
   rw [B9 (n:=a.getD k 0) o o,B9 (n:=d.getD k 0) o o,B9 (n:=c+a.getD k 0) o o,B9 o o]
  ·refine ⟨?_,rfl⟩
   have u:d.getD k 0=0:=gz0
   rw [u,B9 (n:=a.getD k 0) o o,B9 o o];simp
  ·rintro c1 hp3 ⟨R,rfl⟩
   obtain rfl:c1=c+a.getD k 0+d.getD k 0:=gz0
   refine ⟨_,rfl,o,o,?_⟩
   refine L9 (k:=.u32) (zs:=zs) (i:=(k:Int)) I4 o ?_
   rw [aE,T7,Kz,B6 (n:=(k:Int)+1) o o]
   refine ⟨⟨k+1,_,zs.set k ((c+a.getD k 0+d.getD k 0)%4294967296),rfl,o,gz0,q.set (Xw _),o,rfl,?_⟩,by simp only [iAt,aT,List.getElem?_cons_succ];omega⟩
   rw [C5 o,D8,aN,aO o,aU,S3,C,H]
   grind
 ·have p:k=a.length:=o
  subst p
  refine ⟨_,rfl,o,o,?_⟩
  refine L9 I4 o ?_
  rw [aE,J8 o o]
  have g:(zs.set a.length c).length=a.length+1:=gz0
  have f:val b32 (zs.set a.length c)=val b32 a+val b32 d:=by
   have O:zs.set a.length c=zs.take a.length++[c]:=by
    rw [<- C5 o,aI o]
   rw [O,D8,aN,aO o]
   rw [List.take_length,aI (show d.length<=a.length from o)] at Q
   grind
  rw [<- g]
  refine R8 (X8 _ _ _ _ _) (q.set ⟨o,gz0⟩) (Nat.le_refl _) o ?_
  intro m L s
  rw [f] at s
  exact ⟨_,_,_,rfl,hK _ _ _ _ (X9 t _) L s⟩
def Rt{x y:Int}{an bn:Nat}(ma:Mg h A an x)(mb:Mg h B bn y)(hl:an<=18000000000000)(hl2:bn<=18000000000000)(hK:∀ A' m c' h',h.le h'->m<=c'->Mg h' A' m (x+y)->K (.slice A' m c') h'):aK prog 201 #[.slice A an ac,.slice B bn bc] h K:=by
 refine (fnk func201 [(6,[6,7],[],[U 0,I 0])] (cs:=[(3,[0,1],[],[.slice none 0 0,.slice none 0 0]),(11,[6],[],[U 0])])) ?_
 refine ⟨fun l h'=>h'=h/\∃ (A1 B1:Option aR) (a b c1 c2:Nat) (g k:Int),l=[.slice A1 a c1,.slice B1 b c2]/\Mg h A1 a g/\Mg h B1 b k/\b<=a/\a<=18000000000000/\g+k=x+y,B5 (fun p=>?_) (fun p=>?_),?_⟩
 ·grind
 ·grind
 ·rintro A1 a c1 B1 b c2 t ⟨rfl,A1',B1',e,d,i,f,g,k,q,r,n,s,j,c⟩
  obtain ⟨⟨rfl,rfl,rfl⟩,rfl,rfl,rfl⟩:(A1=A1'/\a=e/\c1=i)/\B1=B1'/\b=d/\c2=f:=gz0
  rw [<- c] at hK
  exact Ru r n s j hK
end
