/- A part. -/
import Derived.Test.YteppbhimdjmabaaGreatDoorG11
import Derived.Test.YteppbhimdjmabaaGreatDoorG09
open Go.Proofs.Tryz
set_option linter.all false
open _root_.Go.Addr renaming add->aS
open _root_.Go.Instr renaming storeAt->aC,makeSlice->aO
open Int renaming mul_le_mul_of_nonneg_left->aE,toNat_natCast->aF,fdiv->aH,le_of_lt->aN,pow_succ->aW
open List renaming take_of_length_le->aK,length_take->aP,replicate->aR,drop_eq_getElem_cons->aU,getElem?_cons_zero->aV
open Nat renaming min_eq_left->aQ
open _root_ renaming Nat->J,Int->Z,List->Y
open _root_.Go renaming Program->aI,IntKind->aL,Addr->aT
open _root_.Go.Proofs.YteppbhimdjmabaaGreatDoor renaming Heap->aJ,FCall->aM
namespace Go.Proofs.YteppbhimdjmabaaGreatDoor
set_option maxRecDepth 20000
open Go
def val(B:Z):Y Z->Z
 | []=>0
 |x::r=>x+B*val B r
def Dig(B:Z)(xs:Y Z):Prop:=∀x∈xs,0<=x/\x<B
def Norm(xs:Y Z):Prop:=xs.getLast? ≠ some 0
def I3(B:Z):∀xs ys:Y Z,val B (xs++ys)=val B xs+B^xs.length*val B ys
 | [],ys=>by simp[val]
 |x::xs,ys=>by
  simp only[List.cons_append,val,I3 B xs ys,List.length_cons,aW];grind
def At(B x:Z):val B [x]=x:=by simp[val]
def F9(B:Z)(xs:Y Z)(x:Z):val B (xs++[x])=val B xs+B^xs.length*x:=by rw[I3,At]
def De(B:Z):∀n,val B (aR n 0)=0
 |0=>rfl
 |n+1=>by rw[List.replicate_succ];simp[val,De B n]
def Dig.nil{B:Z}:Dig B []:=fun x h=>by cases h
def Dig.append{B:Z}{xs ys:Y Z}(h1:Dig B xs)(h2:Dig B ys):Dig B (xs++ys):=fun x h=>by rcases List.mem_append.1 h with h|h;{exact h1 x h};·exact h2 x h
def Dig.one{B x:Z}(h:0<=x/\x<B):Dig B [x]:=fun y a=>by grind
def Dig.take{B:Z}{xs:Y Z}(h:Dig B xs)(n:J):Dig B (xs.take n):=fun x a=>h x (List.mem_of_mem_take a)
def Dig.drop{B:Z}{xs:Y Z}(h:Dig B xs)(n:J):Dig B (xs.drop n):=fun x a=>h x (List.mem_of_mem_drop a)
def Dig.getD{B:Z}(hB:0<B){xs:Y Z}(h:Dig B xs)(i:J):0<=xs.getD i 0/\xs.getD i 0<B:=by by_cases a:i<xs.length;{have e:xs.getD i 0=xs[i]:=gz0;rw[e];exact h _ (List.getElem_mem a)};grind
def Dig.set{B:Z}{xs:Y Z}(h:Dig B xs){i:J}{v:Z}(hv:0<=v/\v<B):Dig B (xs.set i v):=fun x b=>by rcases List.mem_or_eq_of_mem_set b with a|a;{exact h x a};omega
def J4{B:Z}(hB:0<B)(n:J):Dig B (aR n 0):=fun x a=>by grind
def C9{B:Z}(hB:0<B):∀{xs:Y Z},Dig B xs->0<=val B xs
 | [],_=>Int.le_refl _
 |x::xs,h=>by
  have h1:=h x (by simp);have a:=C9 hB (xs:=xs) fun y b=>h y (by simp[b]);have:=Int.mul_nonneg (aN hB) a;simp only[val];omega
def Q3{B:Z}(hB:0<B):∀{xs:Y Z},Dig B xs->val B xs<B^xs.length
 | [],_=>by simp[val]
 |x::xs,h=>by
  have h1:=h x (by simp);have b:=Q3 hB (xs:=xs) fun y a=>h y (by simp[a]);have c:B*(val B xs+1)<=B*B^xs.length:=aE o (aN hB);simp only[val,List.length_cons,aW];grind
def E9{B:Z}(hB:0<B)(n:J):0<B^n:=Int.pow_pos hB
def Un{xs:Y Z}{i:J}(hi:i<xs.length):xs.take (i+1)=xs.take i++[xs.getD i 0]:=by simp_all
def S6(B:Z){xs:Y Z}{i:J}(hi:i<xs.length):val B (xs.take (i+1))=val B (xs.take i)+B^i*xs.getD i 0:=by rw[Un hi,F9,aP,aQ o]
def D5{xs:Y Z}{i:J}{v:Z}(hi:i<xs.length):(xs.set i v).take (i+1)=xs.take i++[v]:=by rw[List.take_succ_eq_append_getElem gz0];simp[List.take_set_of_le]
def G9(B:Z)(xs:Y Z){i:J}(hi:i<=xs.length):val B xs=val B (xs.take i)+B^i*val B (xs.drop i):=by have h:=I3 B (xs.take i) (xs.drop i);simp_all
def Norm.nil:Norm []:=by simp[Norm]
def A48{xs:Y Z}{x:Z}(h:x≠0):Norm (xs++[x]):=by simp[Norm,h]
def B1l{B:Z}(hB:0<B){xs:Y Z}(h:Dig B xs)(hn:Norm xs)(hl:xs.length≠0):B^(xs.length-1)<=val B xs:=by obtain⟨n,hn1⟩:∃n,xs.length=n+1:=⟨xs.length-1,o⟩;have a:xs.getD n 0≠0:=by{intro b;apply hn;grind};have e:=h.getD hB n;have c:=S6 B (xs:=xs) (i:=n) o;have d:=C9 hB (h.take n);have:B^n*1<=B^n*xs.getD n 0:=aE o (aN (E9 hB n));grind
def A5z{B:Z}(hB:0<B){xs:Y Z}(h:Dig B xs)(hn:Norm xs):val B xs=0↔xs.length=0:=by constructor;{intro e;by_cases hl:xs.length=0;{exact hl};·have:=B1l hB h hn hl;have:=E9 hB (xs.length-1);omega};·intro e;rw[List.eq_nil_of_length_eq_zero e];rfl
def D7{B:Z}(hB:0<B){m n:J}(h:m<=n):B^m<=B^n:=by obtain⟨k,rfl⟩:=Nat.exists_eq_add_of_le h;rw[Int.pow_add];have:B^m*1<=B^m*B^k:=aE (by have:=E9 hB k;omega) (aN (E9 hB m));omega
def Kh{B:Z}(hB:0<B){xs ys:Y Z}(hx:Dig B xs)(hy:Dig B ys)(ny:Norm ys)(hl:xs.length<ys.length):val B xs<val B ys:=by have a:=Q3 hB hx;have b:=B1l hB hy ny o;have c:=D7 hB (show xs.length<=ys.length-1 from o);omega
def Kg{B:Z}(hB:0<B){xs ys:Y Z}(hx:Dig B xs)(hy:Dig B ys){i:J}(hi:i<xs.length)(hi2:i<ys.length)(he:xs.drop (i+1)=ys.drop (i+1))(hlt:xs.getD i 0<ys.getD i 0):val B xs<val B ys:=by rw[G9 B xs (show i+1<=xs.length from o),G9 B ys (show i+1<=ys.length from o),he,S6 B hi,S6 B hi2];have a:=Q3 hB (hx.take i);have b:=C9 hB (hy.take i);have:B^i*(xs.getD i 0+1)<=B^i*ys.getD i 0:=aE o (aN (E9 hB i));grind
section
set_option maxRecDepth 100000
variable {h:aJ} {K:VP}
def Qr:SliceT prog 44 164 (U32 (0:Z)) 1 4:=⟨by kernel_rfl,by kernel_rfl,rfl,dc⟩
def O2:prog.cellsOf 164=1/\(prog.info? 164).isSome=true:=⟨by kernel_rfl,by kernel_rfl⟩
def Fp:SliceT prog 227 5 (yq9 (0:Z)) 1 1:=⟨by kernel_rfl,by kernel_rfl,rfl,dc⟩
def A9l:prog.cellsOf 5=1/\(prog.info? 5).isSome=true:=⟨by kernel_rfl,by kernel_rfl⟩
def Tg:SliceT prog 28 48 (Qv false none 0 0 false none 0 0) 4 64:=⟨by kernel_rfl,by kernel_rfl,rfl,dc⟩
def B1v:prog.cellsOf 48=4/\(prog.info? 48).isSome=true:=⟨by kernel_rfl,by kernel_rfl⟩
def G2:SliceT prog 22 9 (.string ({data:=#[] }:ByteArray)) 1 16:=⟨by kernel_rfl,by kernel_rfl,rfl,dc⟩
def N9:prog.cellsOf 9=1/\(prog.info? 9).isSome=true:=⟨by kernel_rfl,by kernel_rfl⟩
def B5c(P:aI)(w:OA)(x:J)(y:OA)(e:J)(j:OA)(k:J)(z:LP)(m:Y Value->aJ->J)(a:Z)(n:aJ):Prop:=∃(l:LP) (o:Y Value->aJ->J),l [U 0,I 0] n/\∀d b c,l [U d,I b] c->Bd (b<(e:Z)) (∃r,Ax w r a x <| ∃f,c.cell? (r.add (a.toNat*1))=some (U32 f)/\∃s,Ax y s b e <| ∃g,c.cell? (s.add (b.toNat*1))=some (U32 g)/\∃t,Ax j t (C4 (a+b)) k <| ∃i,c.cell? (t.add ((C4 (a+b)).toNat*1))=some (U32 i)/\∃u,Ax j u (C4 (a+b)) k<|wpH P (aC 164 (Pt (u.add ((C4 (a+b)).toNat*1))) (U32 (J5 (C7 (d+(C7 ((C7 ((C7 f)*(C7 g)))+(C7 i)))))))) (fun _ p=>l [U (aH (C7 (d+(C7 ((C7 ((C7 f)*(C7 g)))+(C7 i))))) (2^(min ((32:Z)).toNat 64))),I (C4 (b+1))] p/\o [U (aH (C7 (d+(C7 ((C7 ((C7 f)*(C7 g)))+(C7 i))))) (2^(min ((32:Z)).toNat 64))),I (C4 (b+1))] p<o [U d,I b] c) c) (∃v,Ax j v (C4 (a+(e:Z))) k<|wpH P (aC 164 (Pt (v.add ((C4 (a+(e:Z))).toNat*1))) (U32 (J5 d))) (fun _ q=>z [I (C4 (a+1))] q/\m [I (C4 (a+1))] q<m [I a] n) c)
def C2b(P:aI)(m:OA)(a t:J)(n:OA)(b u:J)(h:aJ)(K:VP):Prop:=Br ((a:Z)==0) (K (Sl none 0 0) h) (Br ((b:Z)==0) (K (Sl none 0 0) h) (wpH P (aO 44 (I (C4 ((a:Z)+(b:Z)))) (I (C4 ((a:Z)+(b:Z))))) (fun p q=>∃d e i,p=Sl d e i/\∃(c:LP) (o:Y Value->aJ->J),c [I 0] q/\∀f g,c [I f] g->Bd (f<(a:Z)) (B5c P m a n b d e c o f g) (aM P 87 #[Sl d e i] g (fun r s=>∃j k l,r=Sl j k l/\K (Sl j k l) s))) h))
def B13 a b c d e f(hvc:C2b prog a b c d e f h K):aM prog 162 #[Sl a b c,Sl d e f] h K:=fnq func162 {loops:=[(5,⟨[6],[],[I 0],⟨([6,7,8]++Lrg 23 50),[]⟩⟩),(9,⟨[7,8],[],[U 0,I 0],⟨([7,8]++Lrg 29 36),[]⟩⟩)] } [] [] hvc
def Se(P:aI)(j:OA)(a:J)(u:OA)(v:J)(k:Z)(l:Z)(m:Z)(w:Z)(x:Z)(n:LP)(y:aJ):Prop:=∃(g:LP) (o:Y Value->aJ->J),g [U (C7 (Int.tdiv (bor .u64 (C7 ((C7 l)*2^(min ((32:Z)).toNat 64))) (C7 m)) (C7 w))),U (Int.tmod (bor .u64 (C7 ((C7 l)*2^(min ((32:Z)).toNat 64))) (C7 m)) (C7 x))] y/\∀b d c,g [U b,U d] c->∃(i:LP),(Bd (b>=4294967296) (i [] c) (∃p,Ax j p (C4 ((a:Z)-2)) a <| ∃q,c.cell? (p.add ((C4 ((a:Z)-2)).toNat*1))=some (U32 q)/\∃r,Ax u r (C4 ((C4 (k+(a:Z)))-2)) v <| ∃s,c.cell? (r.add ((C4 ((C4 (k+(a:Z)))-2)).toNat*1))=some (U32 s)/\Bd ((C7 (b*(C7 q)))>(bor .u64 (C7 (d*2^(min ((32:Z)).toNat 64))) (C7 s))) (i [] c) (n [U b] c)))/\∀e,i [] e->∃t,Ax j t (C4 ((a:Z)-1)) a <| ∃f,e.cell? (t.add ((C4 ((a:Z)-1)).toNat*1))=some (U32 f)/\Bd ((C7 (d+(C7 f)))>=4294967296) (n [U (C7 (b-1))] e) (g [U (C7 (b-1)),U (C7 (d+(C7 f)))] e/\o [U (C7 (b-1)),U (C7 (d+(C7 f)))] e<o [U b,U d] c)
def A04(P:aI)(t:OA)(d:J)(f:OA)(g:J)(b:Z)(u:Z)(v:LP)(w:aJ):Prop:=∃(k:LP) (l:Y Value->aJ->J),k [U 0,I 0] w/\∀e a c,k [U e,I a] c->Bd (a<(d:Z)) (∃n,Ax f n (C4 (a+b)) g <| ∃i,c.cell? (n.add ((C4 (a+b)).toNat*1))=some (U32 i)/\∃o,Ax t o a d <| ∃j,c.cell? (o.add (a.toNat*1))=some (U32 j)/\∃p,Ax f p (C4 (a+b)) g<|wpH P (aC 164 (Pt (p.add ((C4 (a+b)).toNat*1))) (U32 (J5 (C7 (e+(C7 ((C7 i)+(C7 j)))))))) (fun _ m=>k [U (aH (C7 (e+(C7 ((C7 i)+(C7 j))))) (2^(min ((32:Z)).toNat 64))),I (C4 (a+1))] m/\l [U (aH (C7 (e+(C7 ((C7 i)+(C7 j))))) (2^(min ((32:Z)).toNat 64))),I (C4 (a+1))] m<l [U e,I a] c) c) (∃q,Ax f q (C4 (b+(d:Z))) g <| ∃r,c.cell? (q.add ((C4 (b+(d:Z))).toNat*1))=some (U32 r)/\∃s,Ax f s (C4 (b+(d:Z))) g<|wpH P (aC 164 (Pt (s.add ((C4 (b+(d:Z))).toNat*1))) (U32 (J5 (r+(J5 e))))) (fun _ x=>v [U (C7 (u-1))] x) c)
def Sg(P:aI)(c:OA)(d:J)(a:Z)(e:LP)(f:Z)(g:aJ):Prop:=∃b,Ax c b a d<|wpH P (aC 164 (Pt (b.add (a.toNat*1))) (U32 (J5 f))) (fun _ i=>e [] i) g
def Sd(P:aI)(p:OA)(d:J)(j:OA)(k:J)(A:OA)(B:J)(b:Z)(C:LP)(e:Z)(D:aJ):Prop:=∃(m:LP) (q:Y Value->aJ->J),m [U 0,U 0,I 0] D/\∀c f a g,m [U c,U f,I a] g->Bd (a<(d:Z)) (∃t,Ax p t a d <| ∃i,g.cell? (t.add (a.toNat*1))=some (U32 i)/\∃u,Ax j u (C4 (a+b)) k <| ∃l,g.cell? (u.add ((C4 (a+b)).toNat*1))=some (U32 l)/\∃v,Ax j v (C4 (a+b)) k<|wpH P (aC 164 (Pt (v.add ((C4 (a+b)).toNat*1))) (U32 (J5 (C7 ((C7 ((C7 l)-(A2g .u64 (C7 ((C7 (e*(C7 i)))+c)) (4294967295:Z))))-f))))) (fun _ r=>m [U (aH (C7 ((C7 (e*(C7 i)))+c)) (2^(min ((32:Z)).toNat 64))),U (A2g .u64 (aH (C7 ((C7 ((C7 l)-(A2g .u64 (C7 ((C7 (e*(C7 i)))+c)) (4294967295:Z))))-f)) (2^(min ((32:Z)).toNat 64))) (1:Z)),I (C4 (a+1))] r/\q [U (aH (C7 ((C7 (e*(C7 i)))+c)) (2^(min ((32:Z)).toNat 64))),U (A2g .u64 (aH (C7 ((C7 ((C7 l)-(A2g .u64 (C7 ((C7 (e*(C7 i)))+c)) (4294967295:Z))))-f)) (2^(min ((32:Z)).toNat 64))) (1:Z)),I (C4 (a+1))] r<q [U c,U f,I a] g) g) (∃w,Ax j w (C4 (b+(d:Z))) k <| ∃o,g.cell? (w.add ((C4 (b+(d:Z))).toNat*1))=some (U32 o)/\∃x,Ax j x (C4 (b+(d:Z))) k<|wpH P (aC 164 (Pt (x.add ((C4 (b+(d:Z))).toNat*1))) (U32 (J5 (C7 ((C7 ((C7 o)-c))-f))))) (fun _ s=>∃(n:LP),(Br ((aH (C7 ((C7 ((C7 o)-c))-f)) (2^(min ((63:Z)).toNat 64)))==1) (A04 P p d j k b e n s) (n [U e] s))/\∀y z,n [U y] z->Sg P A B b C y z) g)
def A05(P:aI)(a:OA)(b:J)(c:OA)(d:J)(e:OA)(f:J)(g:Z)(i:LP)(j:Z)(k:aJ):Prop:=Sd P a b c d e f g i j k
def A06(P:aI)(d:LP)(b:Y Value->aJ->J)(a:Z)(e:aJ)(c:aJ):Prop:=d [I (C4 (a-1))] c/\b [I (C4 (a-1))] c<b [I a] e
def Sc(P:aI)(K:VP)(f:Z)(y:OA)(z A:J)(c:OA)(b B:J)(C:aJ):Prop:=∃(g:LP) (i:Y Value->aJ->J),g [I 0] C/\∀a d,g [I a] d->Bd (a<(b:Z)) (∃k,Ax c k a b <| ∃l,d.cell? (k.add (a.toNat*1))=some (U32 l)/\Bd (f<0) False (∃m,Ax c m a b<|wpH P (aC 164 (Pt (m.add (a.toNat*1))) (U32 (aH l (2^(min f.toNat 32))))) (fun _ e=>Bd ((C4 (a+1))<(b:Z)) (∃n,Ax c n a b <| ∃o,e.cell? (n.add (a.toNat*1))=some (U32 o)/\∃p,Ax c p (C4 (a+1)) b <| ∃q,e.cell? (p.add ((C4 (a+1)).toNat*1))=some (U32 q)/\Bd (C7 ((32:Z)-f)<0) False (∃r,Ax c r a b<|wpH P (aC 164 (Pt (r.add (a.toNat*1))) (U32 (bor .u32 o (J5 (C7 ((C7 q)*2^(min (C7 ((32:Z)-f)).toNat 64))))))) (fun _ j=>g [I (C4 (a+1))] j/\i [I (C4 (a+1))] j<i [I a] d) e)) (g [I (C4 (a+1))] e/\i [I (C4 (a+1))] e<i [I a] d)) d)) (aM P 87 #[Sl y z A] d (fun D E=>∃s t u,D=Sl s t u/\aM P 87 #[Sl c b B] E (fun F G=>∃v w x,F=Sl v w x/\K (.tuple #[Sl s t u,Sl v w x]) G)))
def A07(P:aI)(K:VP)(A:Z)(e:OA)(a:J)(d:OA)(f g:J)(k:OA)(l B:J)(C:LP)(D:Y Value->aJ->J)(b:Z)(c:aJ):Prop:=Bd (b>=0) (∃(m:LP),(∃o,Ax d o (C4 (b+(a:Z))) f <| ∃p,c.cell? (o.add ((C4 (b+(a:Z))).toNat*1))=some (U32 p)/\∃q,Ax d q (C4 ((C4 (b+(a:Z)))-1)) f <| ∃r,c.cell? (q.add ((C4 ((C4 (b+(a:Z)))-1)).toNat*1))=some (U32 r)/\∃s,Ax e s (C4 ((a:Z)-1)) a <| ∃i,c.cell? (s.add ((C4 ((a:Z)-1)).toNat*1))=some (U32 i)/\Bd (C7 i=0) False (∃t,Ax e t (C4 ((a:Z)-1)) a <| ∃j,c.cell? (t.add ((C4 ((a:Z)-1)).toNat*1))=some (U32 j)/\Bd (C7 j=0) False (∃(n:LP),(Se P e a d f b p r i j n c)/\∀u v,n [U u] v->A05 P e a d f k l b m u v)))/\∀w,m [] w->A06 P C D b c w) ((0<=(a:Z)/\(a:Z)<=(g:Z))/\aM P 87 #[.slice (X9 d g 0 1) ((((a:Z)).toNat)-0) (g-0)] c (fun E F=>∃x y z,E=Sl x y z/\Sc P K A k l B x y z F))
def Sf(P:aI)(K:VP)(f:Z)(g:OA)(b:J)(i:OA)(c j:J)(k:OA)(l m:J)(n:aJ):Prop:=∃(a:LP) (o:Y Value->aJ->J),a [I (C4 ((C4 ((c:Z)-(b:Z)))-1))] n/\∀d e,a [I d] e->A07 P K f g b i c j k l m a o d e
def B5d(P:aI)(u:OA)(v w:J)(g:OA)(c x:J)(K:VP)(y:aJ):Prop:=∃(f:LP) (i:Y Value->aJ->J),f [U 0] y/\∀a b,f [U a] b->∃j,Ax g j (C4 ((c:Z)-1)) c <| ∃k,b.cell? (j.add ((C4 ((c:Z)-1)).toNat*1))=some (U32 k)/\Bd (a<0) False (Bd ((J5 (k*2^(min a.toNat 32)))<2147483648) (f [U (C7 (a+1))] b/\i [U (C7 (a+1))] b<i [U a] b) (aM P 276 #[Sl g c x,U a] b (fun z A=>∃l m n,z=Sl l m n/\aM P 87 #[Sl l m n] A (fun B C=>∃o e H,B=Sl o e H/\aM P 276 #[Sl u v w,U a] C (fun D E=>∃p d q,D=Sl p d q/\wpH P (aO 44 (I (C4 ((C4 ((C4 ((d:Z)-(e:Z)))-1))+1))) (I (C4 ((C4 ((C4 ((d:Z)-(e:Z)))-1))+1)))) (fun F G=>∃r s t,F=Sl r s t/\Sf P K a o e p d q r s t G) E)))))
def C2c(P:aI)(a:OA)(b c:J)(f:OA)(d g:J)(h:aJ)(K:VP):Prop:=aM P 156 #[Sl a b c,Sl f d g] h (fun B e=>∃m,B=I m/\Bd (m<0) (wpH P (Instr.buildSlice 44 0 #[]) (fun C D=>∃n o p,C=Sl n o p/\wpH P (Builtin.append_ #[44,44] 44 #[Sl n o p,Sl a b c]) (fun E F=>∃q r s,E=Sl q r s/\K (.tuple #[Sl none 0 0,Sl q r s]) F) D) e) (Br ((d:Z)==1) (∃t,Ax f t (0:Z) d <| ∃u,e.cell? (t.add (((0:Z)).toNat*1))=some (U32 u)/\aM P 251 #[Sl a b c,U32 u] e (fun G H=>∃(i:OA) (j k:J) (l:Z),G= .tuple #[Sl i j k,U32 l]/\wpH P (Instr.buildSlice 44 1 #[(0,U32 l)]) (fun L M=>∃v w x,L=Sl v w x/\aM P 87 #[Sl v w x] M (fun N O=>∃y z A,N=Sl y z A/\K (.tuple #[Sl i j k,Sl y z A]) O)) H)) (B5d P a b c f d g K e)))
def B14 a b c d e f(hvc:C2c prog a b c d e f h K):aM prog 227 #[Sl a b c,Sl d e f] h K:=
 fnq func227 { loops:=[(7,⟨[8],[],[U 0],⟨([8]++Lrg 49 11),[]⟩⟩),(15,⟨[14],[],[I 0],⟨(Lrg 14 11++Lrg 78 178),[]⟩⟩),(20,⟨[16,17],[],[U 0,U 0],⟨([16,17]++Lrg 115 36),[]⟩⟩),(26,⟨[18,19,20],[],[U 0,U 0,I 0],⟨([18,19,20,21,22]++Lrg 151 38),[]⟩⟩),(39,⟨[18,24],[],[U 0,I 0],⟨([18,24]++Lrg 212 29),[]⟩⟩),(48,⟨[26],[],[I 0],⟨([26]++Lrg 260 36),[]⟩⟩)],cuts:=[(16,⟨[],[],[],⟨(Lrg 15 10++Lrg 82 174),[]⟩⟩),(21,⟨[],[],[],⟨(Lrg 115 24),[]⟩⟩),(24,⟨[16],[],[U 0],⟨([16,17]++Lrg 115 36),[]⟩⟩),(45,⟨[16],[],[U 0],⟨([16,18,24]++Lrg 207 44),[]⟩⟩)] } [] [] hvc
end
def blk(k:aL)(e:TypeId)(g:aJ)(b:J)(zs:Y Z):aJ:=g.put b (.cells (zs.map (Value.int k)).toArray e)
def Eb{k:aL}{e:TypeId}{g:aJ}{b:J}(hb:g b=none)(zs:Y Z):g.le (blk k e g b zs):=Heap.le_put _ hb
def Ck(k:aL)(e:TypeId)(g:aJ)(b:J)(zs:Y Z):SlI k (blk k e g b zs) (some ⟨b,0,none⟩) zs:=SlI.new g b zs e _
def N8{P:aI}{k:aL}{t e:TypeId}{bytes:J}(s:SliceT P t e (.int k 0) 1 bytes){n:Z}(h0:0<=n)(h2:n*bytes<=281474976710656)(h3:n<=9223372036854775807){K:VP}{h:aJ} (x:∀b,h b=none->K (.slice (some ⟨b,0,none⟩) n.toNat n.toNat) (blk k e h b (aR n.toNat 0))):wpH P (aO t (I n) (I n)) K h:=by refine Wi s h0 (Int.le_refl n) h2 h3 ?_;intro b a;have:=x b a;unfold blk at this;rw[List.map_replicate]at this;rw[show(Value.int k 0).cells=#[.int k 0]from rfl,Eh];exact this
def V7{P:aI}{t:TypeId}(one:P.cellsOf t=1/\(P.info? t).isSome=true){k:aL}{n i:Z}{g:aJ}{b:J}{e:TypeId}{zs:Y Z}(hi:i.toNat<zs.length){K:Unit->aJ->Prop} (x:K () (blk k e g b (zs.set i.toNat n))):wpH P (aC t (.pointer (some (aS ⟨b,0,none⟩ (i.toNat*1)))) (.int k n)) K (blk k e g b zs):=by refine Uv one gz0 ?_;unfold blk at x;simp_all
def Mag(k:aL)(B:Z)(h:aJ)(A:Option aT)(len:J)(n:Z):Prop:=∃xs:Y Z,len=xs.length/\SlI k h A xs/\Dig B xs/\Norm xs/\val B xs=n
def Mag.mono{k:aL}{B:Z}{h h':aJ}(hl:h.le h'){A:Option aT}{len:J}{n:Z}(m:Mag k B h A len n):Mag k B h' A len n:=by obtain⟨xs,a,b,c⟩:=m;exact⟨xs,a,b.mono hl,c⟩
def Mag.zero{k:aL}{B:Z}{h:aJ}{A:Option aT}:Mag k B h A 0 0:=⟨[],rfl,SlI.nil,Dig.nil,Norm.nil,rfl⟩
def Mag.nonneg{k:aL}{B:Z}(hB:0<B){h:aJ}{A:Option aT}{len:J}{n:Z}(m:Mag k B h A len n):0<=n:=by obtain⟨xs,_,_,a,_,rfl⟩:=m;exact C9 hB a
def Mag.len_zero{k:aL}{B:Z}(hB:0<B){h:aJ}{A:Option aT}{len:J}{n:Z}(m:Mag k B h A len n):n=0↔len=0:=by obtain⟨xs,rfl,_,b,a,rfl⟩:=m;exact A5z hB b a
def Mag.lt{k:aL}{B:Z}(hB:0<B){h:aJ}{A:Option aT}{len:J}{n:Z}(m:Mag k B h A len n):n<B^len:=by obtain⟨xs,rfl,_,a,_,rfl⟩:=m;exact Q3 hB a
def Mag.ge{k:aL}{B:Z}(hB:0<B){h:aJ}{A:Option aT}{len:J}{n:Z}(m:Mag k B h A len n)(hl:len≠0):B^(len-1)<=n:=by obtain⟨xs,rfl,_,b,a,rfl⟩:=m;exact B1l hB b a hl
def Mag.len_le{k:aL}{B:Z}(hB:1<B){h:aJ}{A:Option aT}{len:J}{n:Z}(m:Mag k B h A len n){j:J}(hn:n<B^j):len<=j:=by by_cases hl:len=0;{omega};·have b:=m.ge o hl;by_cases a:len<=j;{exact a};·have:=D7 (B:=B) o (show j<=len-1 from o);omega
abbrev b32:Z:=4294967296
abbrev Mg(h:aJ)(A:Option aT)(len:J)(n:Z):Prop:=Mag .u32 b32 h A len n
section
variable {h g:aJ} {K:VP} {A B:Option aT} {ac bc:J}
def A2z{xs:Y Z}(s:SlI .u32 h A xs)(hc:xs.length<=ac)(hl:xs.length<=100000000000000)(hK:∀m,m<=xs.length->Norm (xs.take m)->val b32 (xs.take m)=val b32 xs->K (.slice A m ac) h):aM prog 87 #[.slice A xs.length ac] h K:=by
 refine(fnk func87 [(1,[0],[],[.slice none 0 0])]) ?_;refine⟨fun l g=>∃m:J,l=[.slice A m ac]/\m<=xs.length/\g=h/\val b32 (xs.take m)=val b32 xs,fun l _=>match l with|[.slice _ m _]=>m|_=>0,⟨xs.length,rfl,Nat.le_refl _,rfl,by rw[List.take_length]⟩,?_⟩
 rintro A1 b c1 t ⟨m,k,f,rfl,c⟩;obtain⟨rfl,rfl,rfl⟩:A1=A/\b=m/\c1=ac:=gz0;refine B9 (fun q=>?_) (fun q=>?_)
 ·obtain⟨j,rfl⟩:∃j,b=j+1:=⟨b-1,o⟩;have e:C4 (((j+1:J):Z)-1)=(j:Z):=by rw[C0 o o];omega
  rw[e];obtain⟨a,n,r⟩:=SlV.at s (i:=j) gz0;have p:=S6 b32 (xs:=xs) (i:=j) o;refine⟨a,n,o,o,xs.getD j 0,gz0,?_⟩;refine D4 (fun d=>?_) (fun d=>?_)
  ·refine⟨⟨o,o⟩,⟨j,?_,o,rfl,?_⟩,?_⟩;·simp[I7]
   ·grind
   ·simp
  ·refine hK (j+1) f ?_ c;rw[Un o];exact A48 d
 ·have:b=0:=o;subst this;exact hK 0 o Norm.nil c
def Bk{xs:Y Z}(s:SlI .u32 h A xs)(hd:Dig b32 xs)(hc:xs.length<=ac)(hl:xs.length<=100000000000000)(hK:∀m,m<=xs.length->Mg h A m (val b32 xs)->K (.slice A m ac) h):aM prog 87 #[.slice A xs.length ac] h K:=by refine A2z s hc hl ?_;intro m a d b;refine hK m a ⟨xs.take m,gz0,?_,hd.take m,d,b⟩;have:=s.cut (c:=ac) (l:=0) (m:=m) o a hc;simpa[I7]using this
def Xe{x y:Z}{an bn:J}(ma:Mg h A an x)(mb:Mg h B bn y)(hl:an<=100000000000000)(hK:K (I (if x<y then -1 else if x>y then 1 else 0)) h):aM prog 156 #[.slice A an ac,.slice B bn bc] h K:=by obtain⟨xs,rfl,m,b,z,rfl⟩:=ma;obtain⟨d,rfl,n,a,s,rfl⟩:=mb;refine(fnk func156 [(6,[5],[],[I 0])]) ?_;refine D8 (fun u=>B9 (fun f=>?_) (fun f=>?_)) (fun u=>?_);{have:=Kh dc b a s o;grind};{have:=Kh dc a b z o;grind};·have p:xs.length=d.length:=o;refine⟨fun l q=>∃k:J,l=[I ((k:Z)-1)]/\k<=xs.length/\q=h/\xs.drop k=d.drop k,fun l _=>(iAt l 0+1).toNat,⟨xs.length,?_,Nat.le_refl _,rfl,?_⟩,?_⟩;{rw[C0 o o]};{grind};rintro i C ⟨k,t,D,rfl,c⟩;obtain rfl:i=(k:Z)-1:=gz0;refine B9 (fun f=>?_) (fun f=>?_);{obtain⟨j,rfl⟩:∃j,k=j+1:=⟨k-1,o⟩;have e:((j+1:J):Z)-1=(j:Z):=o;rw[e];refine m.load rfl o o ?_;refine n.load rfl o o ?_;rw[aF];refine D8 (fun w=>?_) (fun w=>?_);{refine m.load rfl o o ?_;refine n.load rfl o o ?_;rw[aF];refine B9 (fun g=>?_) (fun g=>?_);{have:=Kg dc b a (i:=j) o o c g;grind};·have:=Kg dc a b (i:=j) o o c.symm o;grind};·rw[C0 o o];refine⟨⟨j,rfl,o,rfl,?_⟩,by simp only[iAt,aV];omega⟩;rw[aU (show j<xs.length from o),aU (show j<d.length from o),c];grind};·have r:k=0:=o;grind
end
def C6(B:Z)(xs:Y Z)(i:J):val B (xs.take (i+1))=val B (xs.take i)+B^i*xs.getD i 0:=by by_cases a:i<xs.length;{exact S6 B a};·rw[aK o,aK o];grind
def Xx{c:Z}:aH c (2^(min ((32:Z)).toNat 64))=c/4294967296:=by grind
def Cu{xs:Y Z}(d:Dig b32 xs)(i:J):0<=xs.getD i 0/\xs.getD i 0<4294967296:=d.getD dc i
def B09(c:Z):0<=c%4294967296/\c%4294967296<b32:=⟨Int.emod_nonneg _ dc,Int.emod_lt_of_pos _ dc⟩
def A6b{xs:Y Z}{i j:J}{v:Z}(h:i≠j):(xs.set i v).getD j 0=xs.getD j 0:=by grind
def Cz{B P v c:Z}:v+P*(c%B)+c/B*(P*B)=v+P*c:=by have:=Int.emod_add_mul_ediv c B;grind
section
variable {h g:aJ} {K:VP} {A B:Option aT} {ac bc:J}
def A7l{x y:Z}{an bn:J}(ma:Mg h A an x)(mb:Mg h B bn y)(hab:bn<=an)(hl:an<=18000000000000)(hK:∀A' m c' h',h.le h'->m<=c'->Mg h' A' m (x+y)->K (.slice A' m c') h'): wpH prog (aO 44 (I (C4 ((an:Z)+1))) (I (C4 ((an:Z)+1)))) (fun v hp1=>∃(t18A:Option aT) (t18n:J) (t18c:J),v= .slice t18A t18n t18c/\∃(Invv:LP) (muv:Y Value->aJ->J),Invv [U (0:Z),I (0:Z)] hp1/\∀(c:Z) (i:Z),∀hp2,Invv [U c,I i] hp2->Br (decide (i<((an:J):Z))) (∃a2,A=some a2/\0<=i/\i<((an:J):Z)/\∃(t29:Z),Heap.cell? hp2 (aS a2 ((i).toNat*1))=some (U32 t29)/\∃(Jv1:LP),(Br (decide (i<((bn:J):Z))) (∃a3,B=some a3/\0<=i/\i<((bn:J):Z)/\∃(t40:Z),Heap.cell? hp2 (aS a3 ((i).toNat*1))=some (U32 t40)/\Jv1 [U (C7 ((C7 (c+(C7 t29)))+(C7 t40)))] hp2) (Jv1 [U (C7 (c+(C7 t29)))] hp2))/\∀(c1:Z),∀hp3,Jv1 [U c1] hp3->∃a4,t18A=some a4/\0<=i/\i<((t18n:J):Z)/\wpH prog (aC 164 (.pointer (some (aS a4 ((i).toNat*1)))) (U32 (J5 c1))) (fun _ hp4=>Invv [U (aH c1 (2^(min ((32:Z)).toNat 64))),I (C4 (i+(1:Z)))] hp4/\muv [U (aH c1 (2^(min ((32:Z)).toNat 64))),I (C4 (i+(1:Z)))] hp4<muv [U c,I i] hp2) hp3) (∃a5,t18A=some a5/\0<=((an:J):Z)/\((an:J):Z)<((t18n:J):Z)/\wpH prog (aC 164 (.pointer (some (aS a5 ((((an:J):Z)).toNat*1)))) (U32 (J5 c))) (fun _ hp5=>aM prog 87 #[.slice t18A t18n t18c] hp5 (fun r hp6=>∃(t57A:Option aT) (t57n:J) (t57c:J),r= .slice t57A t57n t57c/\K (.slice t57A t57n t57c) hp6)) hp2)) h:=by obtain⟨xs,rfl,F,S,nx,rfl⟩:=ma;obtain⟨a,rfl,w,L,V,rfl⟩:=mb;have M:C4 ((xs.length:Z)+1)=(xs.length:Z)+1:=C0 o o;rw[M];refine N8 Qr o o o ?_;intro b s;have E:((xs.length:Z)+1).toNat=xs.length+1:=o;rw[E];refine⟨_,_,_,rfl,?_⟩;refine⟨fun l h'=>∃(k:J) (c:Z) (zs:Y Z),l=[U c,I k]/\k<=xs.length/\zs.length=xs.length+1/\Dig b32 zs/\(0<=c/\c<=1)/\h'=blk .u32 164 h b zs/\val b32 (zs.take k)+c*b32^k=val b32 (xs.take k)+val b32 (a.take k),fun l _=>xs.length-(iAt l 1).toNat,⟨0,0,_,rfl,o,by simp,J4 dc _,o,rfl,by rfl⟩,?_⟩;rintro c i X ⟨k,c',zs,R,T,D,p,hc,rfl,O⟩;obtain⟨rfl,rfl⟩:c=c'/\i=(k:Z):=gz0;have g:=Eb (k:=.u32) (e:=164) s zs;refine B9 (fun C=>?_) (fun C=>?_);{have gx:=Cu S k;have W:=Cu L k;have z:=C6 b32 xs k;have G:=C6 b32 a k;refine(F.mono g).load rfl o o ?_;rw[aF];refine⟨fun l h'=>l=[U (c+xs.getD k 0+a.getD k 0)]/\h'=blk .u32 164 h b zs,B9 (fun u=>?_) (fun u=>?_),?_⟩;{refine(w.mono g).load rfl o o ?_;rw[aF];refine⟨?_,rfl⟩;rw[C5 (n:=xs.getD k 0) o o,C5 (n:=a.getD k 0) o o,C5 (n:=c+xs.getD k 0) o o,C5 o o]};{refine⟨?_,rfl⟩;have t:a.getD k 0=0:=gz0;rw[t,C5 (n:=xs.getD k 0) o o,C5 o o];simp};·rintro c1 hp3 ⟨Q,rfl⟩;obtain rfl:c1=c+xs.getD k 0+a.getD k 0:=gz0;refine⟨_,rfl,o,o,?_⟩;refine V7 (k:=.u32) (zs:=zs) (i:=(k:Z)) O2 o ?_;rw[aF,Cl,Xx,C0 (n:=(k:Z)+1) o o];refine⟨⟨k+1,_,zs.set k ((c+xs.getD k 0+a.getD k 0)%4294967296),rfl,o,gz0,p.set (B09 _),o,rfl,?_⟩,by simp only[iAt,aV,List.getElem?_cons_succ];omega⟩;rw[D5 o,F9,aP,aQ o,aW,Cz,z,G];grind};·have j:k=xs.length:=o;subst j;refine⟨_,rfl,o,o,?_⟩;refine V7 O2 o ?_;rw[aF,T5 o o];have f:(zs.set xs.length c).length=xs.length+1:=gz0;have d:val b32 (zs.set xs.length c)=val b32 xs+val b32 a:=by{have N:zs.set xs.length c=zs.take xs.length++[c]:=by{rw[<- D5 o,aK o]};rw[N,F9,aP,aQ o];rw[List.take_length,aK (show a.length<=xs.length from o)]at O;grind};rw[<- f];refine Bk (Ck _ _ _ _ _) (p.set ⟨o,gz0⟩) (Nat.le_refl _) o ?_;intro m H q;rw[d]at q;exact⟨_,_,_,rfl,hK _ _ _ _ (Eb s _) H q⟩
def Xm{x y:Z}{an bn:J}(ma:Mg h A an x)(mb:Mg h B bn y)(hl:an<=18000000000000)(hl2:bn<=18000000000000)(hK:∀A' m c' h',h.le h'->m<=c'->Mg h' A' m (x+y)->K (.slice A' m c') h'):aM prog 155 #[.slice A an ac,.slice B bn bc] h K:=by refine(fnk func155 [(6,[6,7],[],[U 0,I 0])] (cs:=[(3,[0,1],[],[.slice none 0 0,.slice none 0 0]),(11,[6],[],[U 0])])) ?_;refine⟨fun l h'=>h'=h/\∃(A1 B1:Option aT) (a b c1 c2:J) (g k:Z),l=[.slice A1 a c1,.slice B1 b c2]/\Mg h A1 a g/\Mg h B1 b k/\b<=a/\a<=18000000000000/\g+k=x+y,B9 (fun p=>?_) (fun p=>?_),?_⟩;{grind};{grind};·rintro A1 a c1 B1 b c2 t ⟨rfl,A1',B1',e,d,i,f,g,k,q,r,n,s,j,c⟩;obtain⟨⟨rfl,rfl,rfl⟩,rfl,rfl,rfl⟩:(A1=A1'/\a=e/\c1=i)/\B1=B1'/\b=d/\c2=f:=gz0;rw[<- c]at hK;exact A7l r n s j hK
end
