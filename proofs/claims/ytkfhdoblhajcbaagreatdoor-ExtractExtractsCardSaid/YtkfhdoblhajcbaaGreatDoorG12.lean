/- A part. -/
import Derived.Test.YtkfhdoblhajcbaaGreatDoorG11
import Derived.Test.YtkfhdoblhajcbaaGreatDoorG09
open Go.Proofs.Tryz
set_option linter.all false
open _root_.Go.Addr renaming add->aQ
open _root_.Go.Instr renaming storeAt->aC,makeSlice->aM
open Int renaming mul_le_mul_of_nonneg_left->aD,toNat_natCast->aE,fdiv->aF,le_of_lt->aL,pow_succ->aU
open List renaming take_of_length_le->aI,length_take->aN,replicate->aP,drop_eq_getElem_cons->aS,getElem?_cons_zero->aT
open Nat renaming min_eq_left->aO
open _root_.Go renaming Program->aG,IntKind->aJ,Addr->aR
open _root_.Go.Proofs.YtkfhdoblhajcbaaGreatDoor renaming Heap->aH,FCall->aK
namespace Go.Proofs.YtkfhdoblhajcbaaGreatDoor
set_option maxRecDepth 20000
open Go
def val(B:Int):List Int->Int
 | []=>0
 |x::r=>x+B*val B r
def Dig(B:Int)(xs:List Int):Prop:=∀x∈xs,0<=x/\x<B
def Norm(xs:List Int):Prop:=xs.getLast? ≠ some 0
def H8(B:Int):∀xs ys:List Int,val B (xs++ys)=val B xs+B^xs.length*val B ys
 | [],ys=>by simp[val]
 |x::xs,ys=>by
  simp only[List.cons_append,val,H8 B xs ys,List.length_cons,aU];grind
def Ct(B x:Int):val B [x]=x:=by simp[val]
def F8(B:Int)(xs:List Int)(x:Int):val B (xs++[x])=val B xs+B^xs.length*x:=by rw[H8,Ct]
def Cs(B:Int):∀n,val B (aP n 0)=0
 |0=>rfl
 |n+1=>by rw[List.replicate_succ];simp[val,Cs B n]
def Dig.nil{B:Int}:Dig B []:=fun x h=>by cases h
def Dig.append{B:Int}{xs ys:List Int}(h1:Dig B xs)(h2:Dig B ys):Dig B (xs++ys):=fun x h=>by rcases List.mem_append.1 h with h|h;{exact h1 x h};·exact h2 x h
def Dig.one{B x:Int}(h:0<=x/\x<B):Dig B [x]:=fun y c=>by grind
def Dig.take{B:Int}{xs:List Int}(h:Dig B xs)(n:Nat):Dig B (xs.take n):=fun x c=>h x (List.mem_of_mem_take c)
def Dig.drop{B:Int}{xs:List Int}(h:Dig B xs)(n:Nat):Dig B (xs.drop n):=fun x c=>h x (List.mem_of_mem_drop c)
def Dig.getD{B:Int}(hB:0<B){xs:List Int}(h:Dig B xs)(i:Nat):0<=xs.getD i 0/\xs.getD i 0<B:=by by_cases c:i<xs.length;{have e:xs.getD i 0=xs[i]:=gz0;rw[e];exact h _ (List.getElem_mem c)};grind
def Dig.set{B:Int}{xs:List Int}(h:Dig B xs){i:Nat}{v:Int}(hv:0<=v/\v<B):Dig B (xs.set i v):=fun x d=>by rcases List.mem_or_eq_of_mem_set d with c|c;{exact h x c};omega
def J1{B:Int}(hB:0<B)(n:Nat):Dig B (aP n 0):=fun x c=>by grind
def D0{B:Int}(hB:0<B):∀{xs:List Int},Dig B xs->0<=val B xs
 | [],_=>Int.le_refl _
 |x::xs,h=>by
  have h1:=h x (by simp);have c:=D0 hB (xs:=xs) fun y d=>h y (by simp[d]);have:=Int.mul_nonneg (aL hB) c;simp only[val];omega
def O5{B:Int}(hB:0<B):∀{xs:List Int},Dig B xs->val B xs<B^xs.length
 | [],_=>by simp[val]
 |x::xs,h=>by
  have h1:=h x (by simp);have d:=O5 hB (xs:=xs) fun y c=>h y (by simp[c]);have e:B*(val B xs+1)<=B*B^xs.length:=aD o (aL hB);simp only[val,List.length_cons,aU];grind
def E7{B:Int}(hB:0<B)(n:Nat):0<B^n:=Int.pow_pos hB
def Sv{xs:List Int}{i:Nat}(hi:i<xs.length):xs.take (i+1)=xs.take i++[xs.getD i 0]:=by simp_all
def Q1(B:Int){xs:List Int}{i:Nat}(hi:i<xs.length):val B (xs.take (i+1))=val B (xs.take i)+B^i*xs.getD i 0:=by rw[Sv hi,F8,aN,aO o]
def D3{xs:List Int}{i:Nat}{v:Int}(hi:i<xs.length):(xs.set i v).take (i+1)=xs.take i++[v]:=by rw[List.take_succ_eq_append_getElem gz0];simp[List.take_set_of_le]
def G7(B:Int)(xs:List Int){i:Nat}(hi:i<=xs.length):val B xs=val B (xs.take i)+B^i*val B (xs.drop i):=by have h:=H8 B (xs.take i) (xs.drop i);simp_all
def Norm.nil:Norm []:=by simp[Norm]
def A2d{xs:List Int}{x:Int}(h:x≠0):Norm (xs++[x]):=by simp[Norm,h]
def A9z{B:Int}(hB:0<B){xs:List Int}(h:Dig B xs)(hn:Norm xs)(hl:xs.length≠0):B^(xs.length-1)<=val B xs:=by obtain⟨n,hn1⟩:∃n,xs.length=n+1:=⟨xs.length-1,o⟩;have c:xs.getD n 0≠0:=by{intro d;apply hn;grind};have g:=h.getD hB n;have e:=Q1 B (xs:=xs) (i:=n) o;have f:=D0 hB (h.take n);have:B^n*1<=B^n*xs.getD n 0:=aD o (aL (E7 hB n));grind
def A46{B:Int}(hB:0<B){xs:List Int}(h:Dig B xs)(hn:Norm xs):val B xs=0↔xs.length=0:=by constructor;{intro e;by_cases c:xs.length=0;{exact c};·have:=A9z hB h hn c;have:=E7 hB (xs.length-1);omega};·intro e;rw[List.eq_nil_of_length_eq_zero e];rfl
def D9{B:Int}(hB:0<B){m n:Nat}(h:m<=n):B^m<=B^n:=by obtain⟨k,rfl⟩:=Nat.exists_eq_add_of_le h;rw[Int.pow_add];have:B^m*1<=B^m*B^k:=aD (by have:=E7 hB k;omega) (aL (E7 hB m));omega
def Jm{B:Int}(hB:0<B){xs ys:List Int}(hx:Dig B xs)(hy:Dig B ys)(ny:Norm ys)(hl:xs.length<ys.length):val B xs<val B ys:=by have c:=O5 hB hx;have d:=A9z hB hy ny o;have e:=D9 hB (show xs.length<=ys.length-1 from o);omega
def Jl{B:Int}(hB:0<B){xs ys:List Int}(hx:Dig B xs)(hy:Dig B ys){i:Nat}(hi:i<xs.length)(hi2:i<ys.length)(he:xs.drop (i+1)=ys.drop (i+1))(hlt:xs.getD i 0<ys.getD i 0):val B xs<val B ys:=by rw[G7 B xs (show i+1<=xs.length from o),G7 B ys (show i+1<=ys.length from o),he,Q1 B hi,Q1 B hi2];have c:=O5 hB (hx.take i);have d:=D0 hB (hy.take i);have:B^i*(xs.getD i 0+1)<=B^i*ys.getD i 0:=aD o (aL (E7 hB i));grind
section
set_option maxRecDepth 100000
variable {h:aH} {K:VP}
def Sx:SliceT prog 33 197 (U32 (0:Int)) 1 4:=⟨by kernel_rfl,by kernel_rfl,rfl,dc⟩
def N8:prog.cellsOf 197=1/\(prog.info? 197).isSome=true:=⟨by kernel_rfl,by kernel_rfl⟩
def Fb:SliceT prog 206 5 (Y (0:Int)) 1 1:=⟨by kernel_rfl,by kernel_rfl,rfl,dc⟩
def A85:prog.cellsOf 5=1/\(prog.info? 5).isSome=true:=⟨by kernel_rfl,by kernel_rfl⟩
def V4:SliceT prog 27 37 (Qv false none 0 0 false none 0 0) 4 64:=⟨by kernel_rfl,by kernel_rfl,rfl,dc⟩
def Ez:prog.cellsOf 37=4/\(prog.info? 37).isSome=true:=⟨by kernel_rfl,by kernel_rfl⟩
def I6:SliceT prog 31 9 (.string ({data:=#[] }:ByteArray)) 1 16:=⟨by kernel_rfl,by kernel_rfl,rfl,dc⟩
def N5:prog.cellsOf 9=1/\(prog.info? 9).isSome=true:=⟨by kernel_rfl,by kernel_rfl⟩
def B37(P:aG)(w:OA)(x:Nat)(y:OA)(e:Nat)(j:OA)(k:Nat)(z:LP)(m:LN)(a:Int)(n:aH):Prop:=∃(l:LP) (o:LN),l [U 0,I 0] n/\∀d b c,l [U d,I b] c->Bd (b<(e:Int)) (∃r,Ax w r a x <| ∃f,c.cell? (r.add (a.toNat*1))=some (U32 f)/\∃s,Ax y s b e <| ∃g,c.cell? (s.add (b.toNat*1))=some (U32 g)/\∃t,Ax j t (C4 (a+b)) k <| ∃i,c.cell? (t.add ((C4 (a+b)).toNat*1))=some (U32 i)/\∃u,Ax j u (C4 (a+b)) k<|wpH P (aC 197 (Pt (u.add ((C4 (a+b)).toNat*1))) (U32 (J7 (C8 (d+(C8 ((C8 ((C8 f)*(C8 g)))+(C8 i)))))))) (fun _ p=>l [U (aF (C8 (d+(C8 ((C8 ((C8 f)*(C8 g)))+(C8 i))))) (2^(min ((32:Int)).toNat 64))),I (C4 (b+1))] p/\o [U (aF (C8 (d+(C8 ((C8 ((C8 f)*(C8 g)))+(C8 i))))) (2^(min ((32:Int)).toNat 64))),I (C4 (b+1))] p<o [U d,I b] c) c) (∃v,Ax j v (C4 (a+(e:Int))) k<|wpH P (aC 197 (Pt (v.add ((C4 (a+(e:Int))).toNat*1))) (U32 (J7 d))) (fun _ q=>z [I (C4 (a+1))] q/\m [I (C4 (a+1))] q<m [I a] n) c)
def B9w(P:aG)(m:OA)(a t:Nat)(n:OA)(b u:Nat)(h:aH)(K:VP):Prop:=Br ((a:Int)==0) (K (Sl none 0 0) h) (Br ((b:Int)==0) (K (Sl none 0 0) h) (wpH P (aM 33 (I (C4 ((a:Int)+(b:Int)))) (I (C4 ((a:Int)+(b:Int))))) (fun p q=>∃d e i,p=Sl d e i/\∃(c:LP) (o:LN),c [I 0] q/\∀f g,c [I f] g->Bd (f<(a:Int)) (B37 P m a n b d e c o f g) (aK P 129 #[Sl d e i] g (fun r s=>∃j k l,r=Sl j k l/\K (Sl j k l) s))) h))
def A9k a b c d e f(hvc:B9w prog a b c d e f h K):aK prog 103 #[Sl a b c,Sl d e f] h K:=fnq func103 {loops:=[(5,⟨[6],[],[I 0],⟨([6,7,8]++Lrg 23 50),[]⟩⟩),(9,⟨[7,8],[],[U 0,I 0],⟨([7,8]++Lrg 29 36),[]⟩⟩)] } [] [] hvc
def Qr(P:aG)(j:OA)(a:Nat)(u:OA)(v:Nat)(k:Int)(l:Int)(m:Int)(w:Int)(x:Int)(n:LP)(y:aH):Prop:=∃(g:LP) (o:LN),g [U (C8 (Int.tdiv (bor .u64 (C8 ((C8 l)*2^(min ((32:Int)).toNat 64))) (C8 m)) (C8 w))),U (Int.tmod (bor .u64 (C8 ((C8 l)*2^(min ((32:Int)).toNat 64))) (C8 m)) (C8 x))] y/\∀b d c,g [U b,U d] c->∃(i:LP),(Bd (b>=4294967296) (i [] c) (∃p,Ax j p (C4 ((a:Int)-2)) a <| ∃q,c.cell? (p.add ((C4 ((a:Int)-2)).toNat*1))=some (U32 q)/\∃r,Ax u r (C4 ((C4 (k+(a:Int)))-2)) v <| ∃s,c.cell? (r.add ((C4 ((C4 (k+(a:Int)))-2)).toNat*1))=some (U32 s)/\Bd ((C8 (b*(C8 q)))>(bor .u64 (C8 (d*2^(min ((32:Int)).toNat 64))) (C8 s))) (i [] c) (n [U b] c)))/\∀e,i [] e->∃t,Ax j t (C4 ((a:Int)-1)) a <| ∃f,e.cell? (t.add ((C4 ((a:Int)-1)).toNat*1))=some (U32 f)/\Bd ((C8 (d+(C8 f)))>=4294967296) (n [U (C8 (b-1))] e) (g [U (C8 (b-1)),U (C8 (d+(C8 f)))] e/\o [U (C8 (b-1)),U (C8 (d+(C8 f)))] e<o [U b,U d] c)
def Ym(P:aG)(t:OA)(d:Nat)(f:OA)(g:Nat)(b:Int)(u:Int)(v:LP)(w:aH):Prop:=∃(k:LP) (l:LN),k [U 0,I 0] w/\∀e a c,k [U e,I a] c->Bd (a<(d:Int)) (∃n,Ax f n (C4 (a+b)) g <| ∃i,c.cell? (n.add ((C4 (a+b)).toNat*1))=some (U32 i)/\∃o,Ax t o a d <| ∃j,c.cell? (o.add (a.toNat*1))=some (U32 j)/\∃p,Ax f p (C4 (a+b)) g<|wpH P (aC 197 (Pt (p.add ((C4 (a+b)).toNat*1))) (U32 (J7 (C8 (e+(C8 ((C8 i)+(C8 j)))))))) (fun _ m=>k [U (aF (C8 (e+(C8 ((C8 i)+(C8 j))))) (2^(min ((32:Int)).toNat 64))),I (C4 (a+1))] m/\l [U (aF (C8 (e+(C8 ((C8 i)+(C8 j))))) (2^(min ((32:Int)).toNat 64))),I (C4 (a+1))] m<l [U e,I a] c) c) (∃q,Ax f q (C4 (b+(d:Int))) g <| ∃r,c.cell? (q.add ((C4 (b+(d:Int))).toNat*1))=some (U32 r)/\∃s,Ax f s (C4 (b+(d:Int))) g<|wpH P (aC 197 (Pt (s.add ((C4 (b+(d:Int))).toNat*1))) (U32 (J7 (r+(J7 e))))) (fun _ x=>v [U (C8 (u-1))] x) c)
def Qt(P:aG)(c:OA)(d:Nat)(a:Int)(e:LP)(f:Int)(g:aH):Prop:=∃b,Ax c b a d<|wpH P (aC 197 (Pt (b.add (a.toNat*1))) (U32 (J7 f))) (fun _ i=>e [] i) g
def Qq(P:aG)(p:OA)(d:Nat)(j:OA)(k:Nat)(A:OA)(B:Nat)(b:Int)(C:LP)(e:Int)(D:aH):Prop:=∃(m:LP) (q:LN),m [U 0,U 0,I 0] D/\∀c f a g,m [U c,U f,I a] g->Bd (a<(d:Int)) (∃t,Ax p t a d <| ∃i,g.cell? (t.add (a.toNat*1))=some (U32 i)/\∃u,Ax j u (C4 (a+b)) k <| ∃l,g.cell? (u.add ((C4 (a+b)).toNat*1))=some (U32 l)/\∃v,Ax j v (C4 (a+b)) k<|wpH P (aC 197 (Pt (v.add ((C4 (a+b)).toNat*1))) (U32 (J7 (C8 ((C8 ((C8 l)-(A0y .u64 (C8 ((C8 (e*(C8 i)))+c)) (4294967295:Int))))-f))))) (fun _ r=>m [U (aF (C8 ((C8 (e*(C8 i)))+c)) (2^(min ((32:Int)).toNat 64))),U (A0y .u64 (aF (C8 ((C8 ((C8 l)-(A0y .u64 (C8 ((C8 (e*(C8 i)))+c)) (4294967295:Int))))-f)) (2^(min ((32:Int)).toNat 64))) (1:Int)),I (C4 (a+1))] r/\q [U (aF (C8 ((C8 (e*(C8 i)))+c)) (2^(min ((32:Int)).toNat 64))),U (A0y .u64 (aF (C8 ((C8 ((C8 l)-(A0y .u64 (C8 ((C8 (e*(C8 i)))+c)) (4294967295:Int))))-f)) (2^(min ((32:Int)).toNat 64))) (1:Int)),I (C4 (a+1))] r<q [U c,U f,I a] g) g) (∃w,Ax j w (C4 (b+(d:Int))) k <| ∃o,g.cell? (w.add ((C4 (b+(d:Int))).toNat*1))=some (U32 o)/\∃x,Ax j x (C4 (b+(d:Int))) k<|wpH P (aC 197 (Pt (x.add ((C4 (b+(d:Int))).toNat*1))) (U32 (J7 (C8 ((C8 ((C8 o)-c))-f))))) (fun _ s=>∃(n:LP),(Br ((aF (C8 ((C8 ((C8 o)-c))-f)) (2^(min ((63:Int)).toNat 64)))==1) (Ym P p d j k b e n s) (n [U e] s))/\∀y z,n [U y] z->Qt P A B b C y z) g)
def Yn(P:aG)(a:OA)(b:Nat)(c:OA)(d:Nat)(e:OA)(f:Nat)(g:Int)(i:LP)(j:Int)(k:aH):Prop:=Qq P a b c d e f g i j k
def Yo(P:aG)(d:LP)(b:LN)(a:Int)(e:aH)(c:aH):Prop:=d [I (C4 (a-1))] c/\b [I (C4 (a-1))] c<b [I a] e
def Qp(P:aG)(K:VP)(f:Int)(y:OA)(z A:Nat)(c:OA)(b B:Nat)(C:aH):Prop:=∃(g:LP) (i:LN),g [I 0] C/\∀a d,g [I a] d->Bd (a<(b:Int)) (∃k,Ax c k a b <| ∃l,d.cell? (k.add (a.toNat*1))=some (U32 l)/\Bd (f<0) False (∃m,Ax c m a b<|wpH P (aC 197 (Pt (m.add (a.toNat*1))) (U32 (aF l (2^(min f.toNat 32))))) (fun _ e=>Bd ((C4 (a+1))<(b:Int)) (∃n,Ax c n a b <| ∃o,e.cell? (n.add (a.toNat*1))=some (U32 o)/\∃p,Ax c p (C4 (a+1)) b <| ∃q,e.cell? (p.add ((C4 (a+1)).toNat*1))=some (U32 q)/\Bd (C8 ((32:Int)-f)<0) False (∃r,Ax c r a b<|wpH P (aC 197 (Pt (r.add (a.toNat*1))) (U32 (bor .u32 o (J7 (C8 ((C8 q)*2^(min (C8 ((32:Int)-f)).toNat 64))))))) (fun _ j=>g [I (C4 (a+1))] j/\i [I (C4 (a+1))] j<i [I a] d) e)) (g [I (C4 (a+1))] e/\i [I (C4 (a+1))] e<i [I a] d)) d)) (aK P 129 #[Sl y z A] d (fun D E=>∃s t u,D=Sl s t u/\aK P 129 #[Sl c b B] E (fun F G=>∃v w x,F=Sl v w x/\K (.tuple #[Sl s t u,Sl v w x]) G)))
def Yp(P:aG)(K:VP)(A:Int)(e:OA)(a:Nat)(d:OA)(f g:Nat)(k:OA)(l B:Nat)(C:LP)(D:LN)(b:Int)(c:aH):Prop:=Bd (b>=0) (∃(m:LP),(∃o,Ax d o (C4 (b+(a:Int))) f <| ∃p,c.cell? (o.add ((C4 (b+(a:Int))).toNat*1))=some (U32 p)/\∃q,Ax d q (C4 ((C4 (b+(a:Int)))-1)) f <| ∃r,c.cell? (q.add ((C4 ((C4 (b+(a:Int)))-1)).toNat*1))=some (U32 r)/\∃s,Ax e s (C4 ((a:Int)-1)) a <| ∃i,c.cell? (s.add ((C4 ((a:Int)-1)).toNat*1))=some (U32 i)/\Bd (C8 i=0) False (∃t,Ax e t (C4 ((a:Int)-1)) a <| ∃j,c.cell? (t.add ((C4 ((a:Int)-1)).toNat*1))=some (U32 j)/\Bd (C8 j=0) False (∃(n:LP),(Qr P e a d f b p r i j n c)/\∀u v,n [U u] v->Yn P e a d f k l b m u v)))/\∀w,m [] w->Yo P C D b c w) ((0<=(a:Int)/\(a:Int)<=(g:Int))/\aK P 129 #[.slice (V3 d g 0 1) ((((a:Int)).toNat)-0) (g-0)] c (fun E F=>∃x y z,E=Sl x y z/\Qp P K A k l B x y z F))
def Qs(P:aG)(K:VP)(f:Int)(g:OA)(b:Nat)(i:OA)(c j:Nat)(k:OA)(l m:Nat)(n:aH):Prop:=∃(a:LP) (o:LN),a [I (C4 ((C4 ((c:Int)-(b:Int)))-1))] n/\∀d e,a [I d] e->Yp P K f g b i c j k l m a o d e
def B38(P:aG)(u:OA)(v w:Nat)(g:OA)(c x:Nat)(K:VP)(y:aH):Prop:=∃(f:LP) (i:LN),f [U 0] y/\∀a b,f [U a] b->∃j,Ax g j (C4 ((c:Int)-1)) c <| ∃k,b.cell? (j.add ((C4 ((c:Int)-1)).toNat*1))=some (U32 k)/\Bd (a<0) False (Bd ((J7 (k*2^(min a.toNat 32)))<2147483648) (f [U (C8 (a+1))] b/\i [U (C8 (a+1))] b<i [U a] b) (aK P 183 #[Sl g c x,U a] b (fun z A=>∃l m n,z=Sl l m n/\aK P 129 #[Sl l m n] A (fun B C=>∃o e H,B=Sl o e H/\aK P 183 #[Sl u v w,U a] C (fun D E=>∃p d q,D=Sl p d q/\wpH P (aM 33 (I (C4 ((C4 ((C4 ((d:Int)-(e:Int)))-1))+1))) (I (C4 ((C4 ((C4 ((d:Int)-(e:Int)))-1))+1)))) (fun F G=>∃r s t,F=Sl r s t/\Qs P K a o e p d q r s t G) E)))))
def B9x(P:aG)(a:OA)(b c:Nat)(f:OA)(d g:Nat)(h:aH)(K:VP):Prop:=aK P 98 #[Sl a b c,Sl f d g] h (fun B e=>∃m,B=I m/\Bd (m<0) (wpH P (Instr.buildSlice 33 0 #[]) (fun C D=>∃n o p,C=Sl n o p/\wpH P (Builtin.append_ #[33,33] 33 #[Sl n o p,Sl a b c]) (fun E F=>∃q r s,E=Sl q r s/\K (.tuple #[Sl none 0 0,Sl q r s]) F) D) e) (Br ((d:Int)==1) (∃t,Ax f t (0:Int) d <| ∃u,e.cell? (t.add (((0:Int)).toNat*1))=some (U32 u)/\aK P 137 #[Sl a b c,U32 u] e (fun G H=>∃(i:OA) (j k:Nat) (l:Int),G= .tuple #[Sl i j k,U32 l]/\wpH P (Instr.buildSlice 33 1 #[(0,U32 l)]) (fun L M=>∃v w x,L=Sl v w x/\aK P 129 #[Sl v w x] M (fun N O=>∃y z A,N=Sl y z A/\K (.tuple #[Sl i j k,Sl y z A]) O)) H)) (B38 P a b c f d g K e)))
def A9l a b c d e f(hvc:B9x prog a b c d e f h K):aK prog 138 #[Sl a b c,Sl d e f] h K:=fnq func138 ⟨[(7,⟨[8],[],[U 0],⟨([8]++Lrg 49 11),[]⟩⟩),(15,⟨[14],[],[I 0],⟨(Lrg 14 11++Lrg 78 178),[]⟩⟩),(20,⟨[16,17],[],[U 0,U 0],⟨([16,17]++Lrg 115 36),[]⟩⟩),(26,⟨[18,19,20],[],[U 0,U 0,I 0],⟨([18,19,20,21,22]++Lrg 151 38),[]⟩⟩),(39,⟨[18,24],[],[U 0,I 0],⟨([18,24]++Lrg 212 29),[]⟩⟩),(48,⟨[26],[],[I 0],⟨([26]++Lrg 260 36),[]⟩⟩)],[(16,⟨[],[],[],⟨(Lrg 15 10++Lrg 82 174),[]⟩⟩),(21,⟨[],[],[],⟨(Lrg 115 24),[]⟩⟩),(24,⟨[16],[],[U 0],⟨([16,17]++Lrg 115 36),[]⟩⟩),(45,⟨[16],[],[U 0],⟨([16,18,24]++Lrg 207 44),[]⟩⟩)],[],[],[]⟩ [] [] hvc
end
def blk(k:aJ)(e:TypeId)(g:aH)(b:Nat)(zs:List Int):aH:=g.put b (.cells (zs.map (Value.int k)).toArray e)
def Dd{k:aJ}{e:TypeId}{g:aH}{b:Nat}(hb:g b=none)(zs:List Int):g.le (blk k e g b zs):=Heap.le_put _ hb
def Bo(k:aJ)(e:TypeId)(g:aH)(b:Nat)(zs:List Int):SlI k (blk k e g b zs) (some ⟨b,0,none⟩) zs:=SlI.new g b zs e _
def N4{P:aG}{k:aJ}{t e:TypeId}{bytes:Nat}(s:SliceT P t e (.int k 0) 1 bytes){n:Int}(h0:0<=n)(h2:n*bytes<=281474976710656)(h3:n<=9223372036854775807){K:VP}{h:aH} (x:∀b,h b=none->K (.slice (some ⟨b,0,none⟩) n.toNat n.toNat) (blk k e h b (aP n.toNat 0))):wpH P (aM t (I n) (I n)) K h:=by refine Cy s h0 (Int.le_refl n) h2 h3 ?_;intro b c;have:=x b c;unfold blk at this;rw[List.map_replicate]at this;rw[show(Value.int k 0).cells=#[.int k 0]from rfl,T5];exact this
def U2{P:aG}{t:TypeId}(one:P.cellsOf t=1/\(P.info? t).isSome=true){k:aJ}{n i:Int}{g:aH}{b:Nat}{e:TypeId}{zs:List Int}(hi:i.toNat<zs.length){K:Unit->aH->Prop} (x:K () (blk k e g b (zs.set i.toNat n))):wpH P (aC t (.pointer (some (aQ ⟨b,0,none⟩ (i.toNat*1)))) (.int k n)) K (blk k e g b zs):=by refine Nd one gz0 ?_;unfold blk at x;simp_all
def Mag(k:aJ)(B:Int)(h:aH)(A:Option aR)(len:Nat)(n:Int):Prop:=∃xs:List Int,len=xs.length/\SlI k h A xs/\Dig B xs/\Norm xs/\val B xs=n
def Mag.mono{k:aJ}{B:Int}{h h':aH}(hl:h.le h'){A:Option aR}{len:Nat}{n:Int}(m:Mag k B h A len n):Mag k B h' A len n:=by obtain⟨d,c,e,f⟩:=m;exact⟨d,c,e.mono hl,f⟩
def Mag.zero{k:aJ}{B:Int}{h:aH}{A:Option aR}:Mag k B h A 0 0:=⟨[],rfl,SlI.nil,Dig.nil,Norm.nil,rfl⟩
def Mag.nonneg{k:aJ}{B:Int}(hB:0<B){h:aH}{A:Option aR}{len:Nat}{n:Int}(m:Mag k B h A len n):0<=n:=by obtain⟨d,_,_,c,_,rfl⟩:=m;exact D0 hB c
def Mag.len_zero{k:aJ}{B:Int}(hB:0<B){h:aH}{A:Option aR}{len:Nat}{n:Int}(m:Mag k B h A len n):n=0↔len=0:=by obtain⟨e,rfl,_,d,c,rfl⟩:=m;exact A46 hB d c
def Mag.lt{k:aJ}{B:Int}(hB:0<B){h:aH}{A:Option aR}{len:Nat}{n:Int}(m:Mag k B h A len n):n<B^len:=by obtain⟨d,rfl,_,c,_,rfl⟩:=m;exact O5 hB c
def Mag.ge{k:aJ}{B:Int}(hB:0<B){h:aH}{A:Option aR}{len:Nat}{n:Int}(m:Mag k B h A len n)(hl:len≠0):B^(len-1)<=n:=by obtain⟨e,rfl,_,d,c,rfl⟩:=m;exact A9z hB d c hl
def Mag.len_le{k:aJ}{B:Int}(hB:1<B){h:aH}{A:Option aR}{len:Nat}{n:Int}(m:Mag k B h A len n){j:Nat}(hn:n<B^j):len<=j:=by by_cases d:len=0;{omega};·have e:=m.ge o d;by_cases c:len<=j;{exact c};·have:=D9 (B:=B) o (show j<=len-1 from o);omega
abbrev b32:Int:=4294967296
abbrev Mg(h:aH)(A:Option aR)(len:Nat)(n:Int):Prop:=Mag .u32 b32 h A len n
section
variable {h g:aH} {K:VP} {A B:Option aR} {ac bc:Nat}
def A1h{xs:List Int}(s:SlI .u32 h A xs)(hc:xs.length<=ac)(hl:xs.length<=1000000000)(hK:∀m,m<=xs.length->Norm (xs.take m)->val b32 (xs.take m)=val b32 xs->K (.slice A m ac) h):aK prog 129 #[.slice A xs.length ac] h K:=by
 refine(fnk func129 [(1,[0],[],[.slice none 0 0])]) ?_;refine⟨fun l k=>∃m:Nat,l=[.slice A m ac]/\m<=xs.length/\k=h/\val b32 (xs.take m)=val b32 xs,fun l _=>match l with|[.slice _ m _]=>m|_=>0,⟨xs.length,rfl,Nat.le_refl _,rfl,by rw[List.take_length]⟩,?_⟩
 rintro A1 c c1 u ⟨m,n,g,rfl,d⟩;obtain⟨rfl,rfl,rfl⟩:A1=A/\c=m/\c1=ac:=gz0;refine C1 (fun r=>?_) (fun r=>?_)
 ·obtain⟨j,rfl⟩:∃j,c=j+1:=⟨c-1,o⟩;have e:C4 (((j+1:Nat):Int)-1)=(j:Int):=by rw[C2 o o];omega
  rw[e];obtain⟨a,p,t⟩:=SlV.at s (i:=j) gz0;have q:=Q1 b32 (xs:=xs) (i:=j) o;refine⟨a,p,o,o,xs.getD j 0,gz0,?_⟩;refine D5 (fun f=>?_) (fun f=>?_)
  ·refine⟨⟨o,o⟩,⟨j,?_,o,rfl,?_⟩,?_⟩;·simp[I4]
   ·grind
   ·simp
  ·refine hK (j+1) g ?_ d;rw[Sv o];exact A2d f
 ·have:c=0:=o;subst this;exact hK 0 o Norm.nil d
def Cd{xs:List Int}(s:SlI .u32 h A xs)(hd:Dig b32 xs)(hc:xs.length<=ac)(hl:xs.length<=1000000000)(hK:∀m,m<=xs.length->Mg h A m (val b32 xs)->K (.slice A m ac) h):aK prog 129 #[.slice A xs.length ac] h K:=by refine A1h s hc hl ?_;intro m d f e;refine hK m d ⟨xs.take m,gz0,?_,hd.take m,f,e⟩;have:=s.cut (c:=ac) (l:=0) (m:=m) o d hc;simpa[I4]using this
def Vi{x y:Int}{an bn:Nat}(ma:Mg h A an x)(mb:Mg h B bn y)(hl:an<=1000000000)(hK:K (I (if x<y then -1 else if x>y then 1 else 0)) h):aK prog 98 #[.slice A an ac,.slice B bn bc] h K:=by obtain⟨c,rfl,s,f,E,rfl⟩:=ma;obtain⟨n,rfl,p,d,w,rfl⟩:=mb;refine(fnk func98 [(6,[5],[],[I 0])]) ?_;refine E6 (fun z=>C1 (fun m=>?_) (fun m=>?_)) (fun z=>?_);{have:=Jm dc f d w o;grind};{have:=Jm dc d f E o;grind};·have r:c.length=n.length:=o;refine⟨fun l t=>∃k:Nat,l=[I ((k:Int)-1)]/\k<=c.length/\t=h/\c.drop k=n.drop k,fun l _=>(iAt l 0+1).toNat,⟨c.length,?_,Nat.le_refl _,rfl,?_⟩,?_⟩;{rw[C2 o o]};{grind};rintro i G ⟨k,D,F,rfl,g⟩;obtain rfl:i=(k:Int)-1:=gz0;refine C1 (fun m=>?_) (fun m=>?_);{obtain⟨j,rfl⟩:∃j,k=j+1:=⟨k-1,o⟩;have e:((j+1:Nat):Int)-1=(j:Int):=o;rw[e];refine s.load rfl o o ?_;refine p.load rfl o o ?_;rw[aE];refine E6 (fun C=>?_) (fun C=>?_);{refine s.load rfl o o ?_;refine p.load rfl o o ?_;rw[aE];refine C1 (fun q=>?_) (fun q=>?_);{have:=Jl dc f d (i:=j) o o g q;grind};·have:=Jl dc d f (i:=j) o o g.symm o;grind};·rw[C2 o o];refine⟨⟨j,rfl,o,rfl,?_⟩,by simp only[iAt,aT];omega⟩;rw[aS (show j<c.length from o),aS (show j<n.length from o),g];grind};·have u:k=0:=o;grind
end
def C7(B:Int)(xs:List Int)(i:Nat):val B (xs.take (i+1))=val B (xs.take i)+B^i*xs.getD i 0:=by by_cases c:i<xs.length;{exact Q1 B c};·rw[aI o,aI o];grind
def Wf{c:Int}:aF c (2^(min ((32:Int)).toNat 64))=c/4294967296:=by grind
def Ci{xs:List Int}(d:Dig b32 xs)(i:Nat):0<=xs.getD i 0/\xs.getD i 0<4294967296:=d.getD dc i
def A8s(c:Int):0<=c%4294967296/\c%4294967296<b32:=⟨Int.emod_nonneg _ dc,Int.emod_lt_of_pos _ dc⟩
def A4i{xs:List Int}{i j:Nat}{v:Int}(h:i≠j):(xs.set i v).getD j 0=xs.getD j 0:=by grind
def Cn{B P v c:Int}:v+P*(c%B)+c/B*(P*B)=v+P*c:=by have:=Int.emod_add_mul_ediv c B;grind
section
variable {h g:aH} {K:VP} {A B:Option aR} {ac bc:Nat}
def A61{x y:Int}{an bn:Nat}(ma:Mg h A an x)(mb:Mg h B bn y)(hab:bn<=an)(hl:an<=100000000)(hK:∀A' m c' h',h.le h'->m<=c'->Mg h' A' m (x+y)->K (.slice A' m c') h'): wpH prog (aM 33 (I (C4 ((an:Int)+1))) (I (C4 ((an:Int)+1)))) (fun v hp1=>∃(t18A:Option aR) (t18n:Nat) (t18c:Nat),v= .slice t18A t18n t18c/\∃(Invv:LP) (muv:LN),Invv [U (0:Int),I (0:Int)] hp1/\∀(c:Int) (i:Int),∀hp2,Invv [U c,I i] hp2->Br (decide (i<((an:Nat):Int))) (∃a2,A=some a2/\0<=i/\i<((an:Nat):Int)/\∃(t29:Int),Heap.cell? hp2 (aQ a2 ((i).toNat*1))=some (U32 t29)/\∃(Jv1:LP),(Br (decide (i<((bn:Nat):Int))) (∃a3,B=some a3/\0<=i/\i<((bn:Nat):Int)/\∃(t40:Int),Heap.cell? hp2 (aQ a3 ((i).toNat*1))=some (U32 t40)/\Jv1 [U (C8 ((C8 (c+(C8 t29)))+(C8 t40)))] hp2) (Jv1 [U (C8 (c+(C8 t29)))] hp2))/\∀(c1:Int),∀hp3,Jv1 [U c1] hp3->∃a4,t18A=some a4/\0<=i/\i<((t18n:Nat):Int)/\wpH prog (aC 197 (.pointer (some (aQ a4 ((i).toNat*1)))) (U32 (J7 c1))) (fun _ hp4=>Invv [U (aF c1 (2^(min ((32:Int)).toNat 64))),I (C4 (i+(1:Int)))] hp4/\muv [U (aF c1 (2^(min ((32:Int)).toNat 64))),I (C4 (i+(1:Int)))] hp4<muv [U c,I i] hp2) hp3) (∃a5,t18A=some a5/\0<=((an:Nat):Int)/\((an:Nat):Int)<((t18n:Nat):Int)/\wpH prog (aC 197 (.pointer (some (aQ a5 ((((an:Nat):Int)).toNat*1)))) (U32 (J7 c))) (fun _ hp5=>aK prog 129 #[.slice t18A t18n t18c] hp5 (fun r hp6=>∃(t57A:Option aR) (t57n:Nat) (t57c:Nat),r= .slice t57A t57n t57c/\K (.slice t57A t57n t57c) hp6)) hp2)) h:=by obtain⟨d,rfl,H,V,nx,rfl⟩:=ma;obtain⟨f,rfl,C,N,X,rfl⟩:=mb;have O:C4 ((d.length:Int)+1)=(d.length:Int)+1:=C2 o o;rw[O];refine N4 Sx o o o ?_;intro b u;have G:((d.length:Int)+1).toNat=d.length+1:=o;rw[G];refine⟨_,_,_,rfl,?_⟩;refine⟨fun l h'=>∃(k:Nat) (c:Int) (zs:List Int),l=[U c,I k]/\k<=d.length/\zs.length=d.length+1/\Dig b32 zs/\(0<=c/\c<=1)/\h'=blk .u32 197 h b zs/\val b32 (zs.take k)+c*b32^k=val b32 (d.take k)+val b32 (f.take k),fun l _=>d.length-(iAt l 1).toNat,⟨0,0,_,rfl,o,by simp,J1 dc _,o,rfl,by rfl⟩,?_⟩;rintro c i hp ⟨k,c',zs,T,W,F,s,hc,rfl,R⟩;obtain⟨rfl,rfl⟩:c=c'/\i=(k:Int):=gz0;have p:=Dd (k:=.u32) (e:=197) u zs;refine C1 (fun E=>?_) (fun E=>?_);{have gx:=Ci V k;have gy:=Ci N k;have D:=C7 b32 d k;have L:=C7 b32 f k;refine(H.mono p).load rfl o o ?_;rw[aE];refine⟨fun l h'=>l=[U (c+d.getD k 0+f.getD k 0)]/\h'=blk .u32 197 h b zs,C1 (fun z=>?_) (fun z=>?_),?_⟩;{refine(C.mono p).load rfl o o ?_;rw[aE];refine⟨?_,rfl⟩;rw[C6 (n:=d.getD k 0) o o,C6 (n:=f.getD k 0) o o,C6 (n:=c+d.getD k 0) o o,C6 o o]};{refine⟨?_,rfl⟩;have w:f.getD k 0=0:=gz0;rw[w,C6 (n:=d.getD k 0) o o,C6 o o];simp};·rintro c1 hp3 ⟨S,rfl⟩;obtain rfl:c1=c+d.getD k 0+f.getD k 0:=gz0;refine⟨_,rfl,o,o,?_⟩;refine U2 (k:=.u32) (zs:=zs) (i:=(k:Int)) N8 o ?_;rw[aE,Cb,Wf,C2 (n:=(k:Int)+1) o o];refine⟨⟨k+1,_,zs.set k ((c+d.getD k 0+f.getD k 0)%4294967296),rfl,o,gz0,s.set (A8s _),o,rfl,?_⟩,by simp only[iAt,aT,List.getElem?_cons_succ];omega⟩;rw[D3 o,F8,aN,aO o,aU,Cn,D,L];grind};·have q:k=d.length:=o;subst q;refine⟨_,rfl,o,o,?_⟩;refine U2 N8 o ?_;rw[aE,Z9 o o];have j:(zs.set d.length c).length=d.length+1:=gz0;have g:val b32 (zs.set d.length c)=val b32 d+val b32 f:=by{have Q:zs.set d.length c=zs.take d.length++[c]:=by{rw[<- D3 o,aI o]};rw[Q,F8,aN,aO o];rw[List.take_length,aI (show f.length<=d.length from o)]at R;grind};rw[<- j];refine Cd (Bo _ _ _ _ _) (s.set ⟨o,gz0⟩) (Nat.le_refl _) o ?_;intro m M t;rw[g]at t;exact⟨_,_,_,rfl,hK _ _ _ _ (Dd u _) M t⟩
def A60{x y:Int}{an bn:Nat}(ma:Mg h A an x)(mb:Mg h B bn y)(hl:an<=100000000)(hl2:bn<=100000000)(hK:∀A' m c' h',h.le h'->m<=c'->Mg h' A' m (x+y)->K (.slice A' m c') h'):aK prog 97 #[.slice A an ac,.slice B bn bc] h K:=by refine(fnk func97 [(6,[6,7],[],[U 0,I 0])] (cs:=[(3,[0,1],[],[.slice none 0 0,.slice none 0 0]),(11,[6],[],[U 0])])) ?_;refine⟨fun l h'=>h'=h/\∃(A1 B1:Option aR) (c d c1 c2:Nat) (j p:Int),l=[.slice A1 c c1,.slice B1 d c2]/\Mg h A1 c j/\Mg h B1 d p/\d<=c/\c<=100000000/\j+p=x+y,C1 (fun r=>?_) (fun r=>?_),?_⟩;{grind};{grind};·rintro A1 c c1 B1 d c2 w ⟨rfl,A1',B1',g,f,k,i,j,p,s,t,q,u,n,e⟩;obtain⟨⟨rfl,rfl,rfl⟩,rfl,rfl,rfl⟩:(A1=A1'/\c=g/\c1=k)/\B1=B1'/\d=f/\c2=i:=gz0;rw[<- e]at hK;exact A61 t q u n hK
end
