/- A part. -/
import Derived.Test.YtdphgbjaijlckaaGreatDoorG11
import Derived.Test.YtdphgbjaijlckaaGreatDoorG07
open Go.Proofs.Tryz
set_option linter.all false
open _root_.Go.Addr renaming add->aL
open _root_.Go.Instr renaming storeAt->aC,makeSlice->aK
open Int renaming toNat_natCast->aD,fdiv->aE
open List renaming take_of_length_le->aH,drop_eq_getElem_cons->aN,getElem?_cons_zero->aO
open _root_.Go renaming Program->aF,IntKind->aI,Addr->aM
open _root_.Go.Proofs.YtdphgbjaijlckaaGreatDoor renaming Heap->aG,FCall->aJ
namespace Go.Proofs.YtdphgbjaijlckaaGreatDoor
set_option maxRecDepth 20000
open Go
section
set_option maxRecDepth 100000
variable {h:aG} {K:VP}
def Ha:SliceT prog 40 173 (U32 (0:Int)) 1 4:=⟨by kernel_rfl,by kernel_rfl,rfl,dc⟩
def G8:prog.cellsOf 173=1/\(prog.info? 173).isSome=true:=⟨by kernel_rfl,by kernel_rfl⟩
def U7:SliceT prog 166 5 (Y (0:Int)) 1 1:=⟨by kernel_rfl,by kernel_rfl,rfl,dc⟩
def Rh:prog.cellsOf 5=1/\(prog.info? 5).isSome=true:=⟨by kernel_rfl,by kernel_rfl⟩
def Kd:SliceT prog 52 9 (.string ({ data:=#[] }:ByteArray)) 1 16:=⟨by kernel_rfl,by kernel_rfl,rfl,dc⟩
def Wo(P:aF)(w:OA)(x:Nat)(y:OA)(e:Nat)(j:OA)(k:Nat)(z:LP)(m:LN)(a:Int)(n:aG):Prop:=
 ∃ (l:LP) (o:LN),l [U 0,I 0] n/\
 ∀ d b c,l [U d,I b] c->Bd (b<(e:Int)) (∃ r,Ax w r a x <| ∃ f,c.cell? (r.add (a.toNat*1))=some (U32 f)/\∃ s,Ax y s b e <| ∃ g,c.cell? (s.add (b.toNat*1))=some (U32 g)/\∃ t,Ax j t (B6 (a+b)) k <| ∃ i,c.cell? (t.add ((B6 (a+b)).toNat*1))=some (U32 i)/\∃ u,Ax j u (B6 (a+b)) k<|wpH P (aC 173 (Pt (u.add ((B6 (a+b)).toNat*1))) (U32 (F0 (B9 (d+(B9 ((B9 ((B9 f)*(B9 g)))+(B9 i)))))))) (fun _ p=>l [U (aE (B9 (d+(B9 ((B9 ((B9 f)*(B9 g)))+(B9 i))))) (2^(min ((32:Int)).toNat 64))),I (B6 (b+1))] p/\o [U (aE (B9 (d+(B9 ((B9 ((B9 f)*(B9 g)))+(B9 i))))) (2^(min ((32:Int)).toNat 64))),I (B6 (b+1))] p<o [U d,I b] c) c)
 (∃ v,Ax j v (B6 (a+(e:Int))) k<|wpH P (aC 173 (Pt (v.add ((B6 (a+(e:Int))).toNat*1))) (U32 (F0 d))) (fun _ q=>z [I (B6 (a+1))] q/\m [I (B6 (a+1))] q<m [I a] n) c)
def A1v(P:aF)(m:OA)(a t:Nat)(n:OA)(b u:Nat)(h:aG)(K:VP):Prop:=
 Br ((a:Int)==0) (K (Sl none 0 0) h)
 (Br ((b:Int)==0) (K (Sl none 0 0) h)
 (wpH P (aK 40 (I (B6 ((a:Int)+(b:Int)))) (I (B6 ((a:Int)+(b:Int))))) (fun p q=>∃ d e i,p=Sl d e i/\∃ (c:LP) (o:LN),c [I 0] q/\
 ∀ f g,c [I f] g->Bd (f<(a:Int)) (Wo P m a n b d e c o f g)
 (aJ P 200 #[Sl d e i] g (fun r s=>∃ j k l,r=Sl j k l/\K (Sl j k l) s))) h))
def Sp a b c d e f(hvc:A1v prog a b c d e f h K):aJ prog 202 #[Sl a b c,Sl d e f] h K:=
 fnq func202 { loops:=[(5,⟨[6],[],[I 0],⟨([6,7,8]++Lrg 23 50),[]⟩⟩),(9,⟨[7,8],[],[U 0,I 0],⟨([7,8]++Lrg 29 36),[]⟩⟩)] } [] [] hvc
def Fk(P:aF)(j:OA)(a:Nat)(u:OA)(v:Nat)(k:Int)(l:Int)(m:Int)(w:Int)(x:Int)(n:LP)(y:aG):Prop:=
 ∃ (g:LP) (o:LN),g [U (B9 (Int.tdiv (bor .u64 (B9 ((B9 l)*2^(min ((32:Int)).toNat 64))) (B9 m)) (B9 w))),U (Int.tmod (bor .u64 (B9 ((B9 l)*2^(min ((32:Int)).toNat 64))) (B9 m)) (B9 x))] y/\
 ∀ b d c,g [U b,U d] c->∃ (i:LP),(Bd (b>=4294967296) (i [] c)
 (∃ p,Ax j p (B6 ((a:Int)-2)) a <| ∃ q,c.cell? (p.add ((B6 ((a:Int)-2)).toNat*1))=some (U32 q)/\∃ r,Ax u r (B6 ((B6 (k+(a:Int)))-2)) v <| ∃ s,c.cell? (r.add ((B6 ((B6 (k+(a:Int)))-2)).toNat*1))=some (U32 s)/\Bd ((B9 (b*(B9 q)))>(bor .u64 (B9 (d*2^(min ((32:Int)).toNat 64))) (B9 s))) (i [] c)
 (n [U b] c)))/\
 ∀ e,i [] e->∃ t,Ax j t (B6 ((a:Int)-1)) a <| ∃ f,e.cell? (t.add ((B6 ((a:Int)-1)).toNat*1))=some (U32 f)/\Bd ((B9 (d+(B9 f)))>=4294967296) (n [U (B9 (b-1))] e)
 (g [U (B9 (b-1)),U (B9 (d+(B9 f)))] e/\o [U (B9 (b-1)),U (B9 (d+(B9 f)))] e<o [U b,U d] c)
def Js(P:aF)(t:OA)(d:Nat)(f:OA)(g:Nat)(b:Int)(u:Int)(v:LP)(w:aG):Prop:=
 ∃ (k:LP) (l:LN),k [U 0,I 0] w/\
 ∀ e a c,k [U e,I a] c->Bd (a<(d:Int)) (∃ n,Ax f n (B6 (a+b)) g <| ∃ i,c.cell? (n.add ((B6 (a+b)).toNat*1))=some (U32 i)/\∃ o,Ax t o a d <| ∃ j,c.cell? (o.add (a.toNat*1))=some (U32 j)/\∃ p,Ax f p (B6 (a+b)) g<|wpH P (aC 173 (Pt (p.add ((B6 (a+b)).toNat*1))) (U32 (F0 (B9 (e+(B9 ((B9 i)+(B9 j)))))))) (fun _ m=>k [U (aE (B9 (e+(B9 ((B9 i)+(B9 j))))) (2^(min ((32:Int)).toNat 64))),I (B6 (a+1))] m/\l [U (aE (B9 (e+(B9 ((B9 i)+(B9 j))))) (2^(min ((32:Int)).toNat 64))),I (B6 (a+1))] m<l [U e,I a] c) c)
 (∃ q,Ax f q (B6 (b+(d:Int))) g <| ∃ r,c.cell? (q.add ((B6 (b+(d:Int))).toNat*1))=some (U32 r)/\∃ s,Ax f s (B6 (b+(d:Int))) g<|wpH P (aC 173 (Pt (s.add ((B6 (b+(d:Int))).toNat*1))) (U32 (F0 (r+(F0 e))))) (fun _ x=>v [U (B9 (u-1))] x) c)
def Fm(P:aF)(c:OA)(d:Nat)(a:Int)(e:LP)(f:Int)(g:aG):Prop:=
 ∃ b,Ax c b a d<|wpH P (aC 173 (Pt (b.add (a.toNat*1))) (U32 (F0 f))) (fun _ i=>e [] i) g
def Fj(P:aF)(p:OA)(d:Nat)(j:OA)(k:Nat)(A:OA)(B:Nat)(b:Int)(C:LP)(e:Int)(D:aG):Prop:=
 ∃ (m:LP) (q:LN),m [U 0,U 0,I 0] D/\
 ∀ c f a g,m [U c,U f,I a] g->Bd (a<(d:Int)) (∃ t,Ax p t a d <| ∃ i,g.cell? (t.add (a.toNat*1))=some (U32 i)/\∃ u,Ax j u (B6 (a+b)) k <| ∃ l,g.cell? (u.add ((B6 (a+b)).toNat*1))=some (U32 l)/\∃ v,Ax j v (B6 (a+b)) k<|wpH P (aC 173 (Pt (v.add ((B6 (a+b)).toNat*1))) (U32 (F0 (B9 ((B9 ((B9 l)-(Lj .u64 (B9 ((B9 (e*(B9 i)))+c)) (4294967295:Int))))-f))))) (fun _ r=>m [U (aE (B9 ((B9 (e*(B9 i)))+c)) (2^(min ((32:Int)).toNat 64))),U (Lj .u64 (aE (B9 ((B9 ((B9 l)-(Lj .u64 (B9 ((B9 (e*(B9 i)))+c)) (4294967295:Int))))-f)) (2^(min ((32:Int)).toNat 64))) (1:Int)),I (B6 (a+1))] r/\q [U (aE (B9 ((B9 (e*(B9 i)))+c)) (2^(min ((32:Int)).toNat 64))),U (Lj .u64 (aE (B9 ((B9 ((B9 l)-(Lj .u64 (B9 ((B9 (e*(B9 i)))+c)) (4294967295:Int))))-f)) (2^(min ((32:Int)).toNat 64))) (1:Int)),I (B6 (a+1))] r<q [U c,U f,I a] g) g)
 (∃ w,Ax j w (B6 (b+(d:Int))) k <| ∃ o,g.cell? (w.add ((B6 (b+(d:Int))).toNat*1))=some (U32 o)/\∃ x,Ax j x (B6 (b+(d:Int))) k<|wpH P (aC 173 (Pt (x.add ((B6 (b+(d:Int))).toNat*1))) (U32 (F0 (B9 ((B9 ((B9 o)-c))-f))))) (fun _ s=>∃ (n:LP),(Br ((aE (B9 ((B9 ((B9 o)-c))-f)) (2^(min ((63:Int)).toNat 64)))==1) (Js P p d j k b e n s)
 (n [U e] s))/\
 ∀ y z,n [U y] z->Fm P A B b C y z) g)
def Jt(P:aF)(a:OA)(b:Nat)(c:OA)(d:Nat)(e:OA)(f:Nat)(g:Int)(i:LP)(j:Int)(k:aG):Prop:=
 Fj P a b c d e f g i j k
def Ju(P:aF)(d:LP)(b:LN)(a:Int)(e:aG)(c:aG):Prop:=
 d [I (B6 (a-1))] c/\b [I (B6 (a-1))] c<b [I a] e
def Fi(P:aF)(K:VP)(f:Int)(y:OA)(z A:Nat)(c:OA)(b B:Nat)(C:aG):Prop:=
 ∃ (g:LP) (i:LN),g [I 0] C/\
 ∀ a d,g [I a] d->Bd (a<(b:Int)) (∃ k,Ax c k a b <| ∃ l,d.cell? (k.add (a.toNat*1))=some (U32 l)/\Bd (f<0) False
 (∃ m,Ax c m a b<|wpH P (aC 173 (Pt (m.add (a.toNat*1))) (U32 (aE l (2^(min f.toNat 32))))) (fun _ e=>Bd ((B6 (a+1))<(b:Int)) (∃ n,Ax c n a b <| ∃ o,e.cell? (n.add (a.toNat*1))=some (U32 o)/\∃ p,Ax c p (B6 (a+1)) b <| ∃ q,e.cell? (p.add ((B6 (a+1)).toNat*1))=some (U32 q)/\Bd (B9 ((32:Int)-f)<0) False
 (∃ r,Ax c r a b<|wpH P (aC 173 (Pt (r.add (a.toNat*1))) (U32 (bor .u32 o (F0 (B9 ((B9 q)*2^(min (B9 ((32:Int)-f)).toNat 64))))))) (fun _ j=>g [I (B6 (a+1))] j/\i [I (B6 (a+1))] j<i [I a] d) e))
 (g [I (B6 (a+1))] e/\i [I (B6 (a+1))] e<i [I a] d)) d))
 (aJ P 200 #[Sl y z A] d (fun D E=>∃ s t u,D=Sl s t u/\aJ P 200 #[Sl c b B] E (fun F G=>∃ v w x,F=Sl v w x/\K (.tuple #[Sl s t u,Sl v w x]) G)))
def Jv(P:aF)(K:VP)(A:Int)(e:OA)(a:Nat)(d:OA)(f g:Nat)(k:OA)(l B:Nat)(C:LP)(D:LN)(b:Int)(c:aG):Prop:=
 Bd (b>=0) (∃ (m:LP),(∃ o,Ax d o (B6 (b+(a:Int))) f <| ∃ p,c.cell? (o.add ((B6 (b+(a:Int))).toNat*1))=some (U32 p)/\∃ q,Ax d q (B6 ((B6 (b+(a:Int)))-1)) f <| ∃ r,c.cell? (q.add ((B6 ((B6 (b+(a:Int)))-1)).toNat*1))=some (U32 r)/\∃ s,Ax e s (B6 ((a:Int)-1)) a <| ∃ i,c.cell? (s.add ((B6 ((a:Int)-1)).toNat*1))=some (U32 i)/\Bd (B9 i=0) False
 (∃ t,Ax e t (B6 ((a:Int)-1)) a <| ∃ j,c.cell? (t.add ((B6 ((a:Int)-1)).toNat*1))=some (U32 j)/\Bd (B9 j=0) False
 (∃ (n:LP),(Fk P e a d f b p r i j n c)/\
 ∀ u v,n [U u] v->Jt P e a d f k l b m u v)))/\
 ∀ w,m [] w->Ju P C D b c w)
 ((0<=(a:Int)/\(a:Int)<=(g:Int))/\aJ P 200 #[.slice (Q7 d g 0 1) ((((a:Int)).toNat)-0) (g-0)] c (fun E F=>∃ x y z,E=Sl x y z/\Fi P K A k l B x y z F))
def Fl(P:aF)(K:VP)(f:Int)(g:OA)(b:Nat)(i:OA)(c j:Nat)(k:OA)(l m:Nat)(n:aG):Prop:=
 ∃ (a:LP) (o:LN),a [I (B6 ((B6 ((c:Int)-(b:Int)))-1))] n/\
 ∀ d e,a [I d] e->Jv P K f g b i c j k l m a o d e
def Wp(P:aF)(u:OA)(v w:Nat)(g:OA)(c x:Nat)(K:VP)(y:aG):Prop:=
 ∃ (f:LP) (i:LN),f [U 0] y/\
 ∀ a b,f [U a] b->∃ j,Ax g j (B6 ((c:Int)-1)) c <| ∃ k,b.cell? (j.add ((B6 ((c:Int)-1)).toNat*1))=some (U32 k)/\Bd (a<0) False
 (Bd ((F0 (k*2^(min a.toNat 32)))<2147483648) (f [U (B9 (a+1))] b/\i [U (B9 (a+1))] b<i [U a] b)
 (aJ P 275 #[Sl g c x,U a] b (fun z A=>∃ l m n,z=Sl l m n/\aJ P 200 #[Sl l m n] A (fun B C=>∃ o e H,B=Sl o e H/\aJ P 275 #[Sl u v w,U a] C (fun D E=>∃ p d q,D=Sl p d q/\wpH P (aK 40 (I (B6 ((B6 ((B6 ((d:Int)-(e:Int)))-1))+1))) (I (B6 ((B6 ((B6 ((d:Int)-(e:Int)))-1))+1)))) (fun F G=>∃ r s t,F=Sl r s t/\Fl P K a o e p d q r s t G) E)))))
def A1w(P:aF)(a:OA)(b c:Nat)(f:OA)(d g:Nat)(h:aG)(K:VP):Prop:=
 aJ P 225 #[Sl a b c,Sl f d g] h (fun B e=>∃ m,B=I m/\Bd (m<0) (wpH P (Instr.buildSlice 40 0 #[]) (fun C D=>∃ n o p,C=Sl n o p/\wpH P (Builtin.append_ #[40,40] 40 #[Sl n o p,Sl a b c]) (fun E F=>∃ q r s,E=Sl q r s/\K (.tuple #[Sl none 0 0,Sl q r s]) F) D) e)
 (Br ((d:Int)==1) (∃ t,Ax f t (0:Int) d <| ∃ u,e.cell? (t.add (((0:Int)).toNat*1))=some (U32 u)/\aJ P 141 #[Sl a b c,U32 u] e (fun G H=>∃ (i:OA) (j k:Nat) (l:Int),G= .tuple #[Sl i j k,U32 l]/\wpH P (Instr.buildSlice 40 1 #[(0,U32 l)]) (fun L M=>∃ v w x,L=Sl v w x/\aJ P 200 #[Sl v w x] M (fun N O=>∃ y z A,N=Sl y z A/\K (.tuple #[Sl i j k,Sl y z A]) O)) H))
 (Wp P a b c f d g K e)))
def Sq a b c d e f(hvc:A1w prog a b c d e f h K):aJ prog 250 #[Sl a b c,Sl d e f] h K:=
 fnq func250 ⟨[(7,⟨[8],[],[U 0],⟨([8]++Lrg 49 11),[]⟩⟩),(15,⟨[14],[],[I 0],⟨(Lrg 14 11++Lrg 78 178),[]⟩⟩),(20,⟨[16,17],[],[U 0,U 0],⟨([16,17]++Lrg 115 36),[]⟩⟩),(26,⟨[18,19,20],[],[U 0,U 0,I 0],⟨([18,19,20,21,22]++Lrg 151 38),[]⟩⟩),(39,⟨[18,24],[],[U 0,I 0],⟨([18,24]++Lrg 212 29),[]⟩⟩),(48,⟨[26],[],[I 0],⟨([26]++Lrg 260 36),[]⟩⟩)],[(16,⟨[],[],[],⟨(Lrg 15 10++Lrg 82 174),[]⟩⟩),(21,⟨[],[],[],⟨(Lrg 115 24),[]⟩⟩),(24,⟨[16],[],[U 0],⟨([16,17]++Lrg 115 36),[]⟩⟩),(45,⟨[16],[],[U 0],⟨([16,18,24]++Lrg 207 44),[]⟩⟩)],[],[],[]⟩ [] [] hvc
end
def blk(k:aI)(e:TypeId)(g:aG)(b:Nat)(zs:List Int):aG:=g.put b (.cells (zs.map (Value.int k)).toArray e)
def V8{k:aI}{e:TypeId}{g:aG}{b:Nat}(hb:g b=none)(zs:List Int):g.le (blk k e g b zs):=Heap.le_put _ hb
def V7(k:aI)(e:TypeId)(g:aG)(b:Nat)(zs:List Int):SlI k (blk k e g b zs) (some ⟨b,0,none⟩) zs:=SlI.new g b zs e _
def H0{P:aF}{k:aI}{t e:TypeId}{bytes:Nat}(s:SliceT P t e (.int k 0) 1 bytes){n:Int}(h0:0<=n)(h2:n*bytes<=281474976710656)(h3:n<=9223372036854775807){K:VP}{h:aG}
 (x:∀ b,h b=none->K (.slice (some ⟨b,0,none⟩) n.toNat n.toNat) (blk k e h b (List.replicate n.toNat 0))):wpH P (aK t (I n) (I n)) K h:=by
 refine A1a s h0 (Int.le_refl n) h2 h3 ?_
 intro b a
 have:=x b a
 unfold blk at this
 rw [List.map_replicate] at this
 rw [show (Value.int k 0).cells=#[.int k 0] from rfl,Mi]
 exact this
def K4{P:aF}{t:TypeId}(one:P.cellsOf t=1/\(P.info? t).isSome=true){k:aI}{n i:Int}{g:aG}{b:Nat}{e:TypeId}{zs:List Int}(hi:i.toNat<zs.length){K:Unit->aG->Prop}
 (x:K () (blk k e g b (zs.set i.toNat n))):wpH P (aC t (.pointer (some (aL ⟨b,0,none⟩ (i.toNat*1)))) (.int k n)) K (blk k e g b zs):=by
 refine Tp one gz0 ?_
 unfold blk at x
 simp_all
def Mag(k:aI)(B:Int)(h:aG)(A:Option aM)(len:Nat)(n:Int):Prop:=∃ xs:List Int,len=xs.length/\SlI k h A xs/\Dig B xs/\Norm xs/\val B xs=n
def Mag.mono{k:aI}{B:Int}{h h':aG}(hl:h.le h'){A:Option aM}{len:Nat}{n:Int}(m:Mag k B h A len n):Mag k B h' A len n:=by
 obtain ⟨b,a,c,d⟩:=m;exact ⟨b,a,c.mono hl,d⟩
def Mag.zero{k:aI}{B:Int}{h:aG}{A:Option aM}:Mag k B h A 0 0:=⟨[],rfl,SlI.nil,Dig.nil,Norm.nil,rfl⟩
def Mag.nonneg{k:aI}{B:Int}(hB:0<B){h:aG}{A:Option aM}{len:Nat}{n:Int}(m:Mag k B h A len n):0<=n:=by
 obtain ⟨b,_,_,a,_,rfl⟩:=m;exact C2 hB a
def Mag.len_zero{k:aI}{B:Int}(hB:0<B){h:aG}{A:Option aM}{len:Nat}{n:Int}(m:Mag k B h A len n):n=0↔len=0:=by
 obtain ⟨c,rfl,_,b,a,rfl⟩:=m;exact Oj hB b a
def Mag.lt{k:aI}{B:Int}(hB:0<B){h:aG}{A:Option aM}{len:Nat}{n:Int}(m:Mag k B h A len n):n<B^len:=by
 obtain ⟨b,rfl,_,a,_,rfl⟩:=m;exact H1 hB a
def Mag.ge{k:aI}{B:Int}(hB:0<B){h:aG}{A:Option aM}{len:Nat}{n:Int}(m:Mag k B h A len n)(hl:len≠0):B^(len-1)<=n:=by
 obtain ⟨c,rfl,_,b,a,rfl⟩:=m;exact Tc hB b a hl
def Mag.len_le{k:aI}{B:Int}(hB:1<B){h:aG}{A:Option aM}{len:Nat}{n:Int}(m:Mag k B h A len n){j:Nat}(hn:n<B^j):len<=j:=by
 by_cases b:len=0
 ·omega
 ·have c:=m.ge o b
  by_cases a:len<=j
  ·exact a
  ·have:=C7 (B:=B) o (show j<=len-1 from o)
   omega
abbrev b32:Int:=4294967296
abbrev Mg(h:aG)(A:Option aM)(len:Nat)(n:Int):Prop:=Mag .u32 b32 h A len n
section
variable {h g:aG} {K:VP} {A B:Option aM} {ac bc:Nat}
def Ls{xs:List Int}(s:SlI .u32 h A xs)(hc:xs.length<=ac)(hl:xs.length<=100000000000000)(hK:∀ m,m<=xs.length->Norm (xs.take m)->val b32 (xs.take m)=val b32 xs->K (.slice A m ac) h):aJ prog 200 #[.slice A xs.length ac] h K:=by
 refine (fnk func200 [(1,[0],[],[.slice none 0 0])]) ?_
 refine ⟨fun l k=>∃ m:Nat,l=[.slice A m ac]/\m<=xs.length/\k=h/\val b32 (xs.take m)=val b32 xs,fun l _=>match l with|[.slice _ m _]=>m|_=>0,⟨xs.length,rfl,Nat.le_refl _,rfl,by rw [List.take_length]⟩,?_⟩
 rintro A1 b w x ⟨m,n,g,rfl,c⟩
 obtain ⟨rfl,rfl,rfl⟩:A1=A/\b=m/\w=ac:=gz0
 refine B5 (fun r=>?_) (fun r=>?_)
 ·obtain ⟨j,rfl⟩:∃ j,b=j+1:=⟨b-1,o⟩
  have e:B6 (((j+1:Nat):Int)-1)=(j:Int):=by rw [B4 o o];omega
  rw [e]
  obtain ⟨a,p,u⟩:=SlV.at s (i:=j) gz0
  have q:=H4 b32 (xs:=xs) (i:=j) o
  refine ⟨a,p,o,o,xs.getD j 0,gz0,?_⟩
  refine D6 (fun d=>?_) (fun d=>?_)
  ·refine ⟨⟨o,o⟩,⟨j,?_,o,rfl,?_⟩,?_⟩
   ·simp [F7]
   ·grind
   ·simp
  ·refine hK (j+1) g ?_ c
   rw [Gz o];exact Mx d
 ·have:b=0:=o
  subst this
  exact hK 0 o Norm.nil c
def S8{xs:List Int}(s:SlI .u32 h A xs)(hd:Dig b32 xs)(hc:xs.length<=ac)(hl:xs.length<=100000000000000)(hK:∀ m,m<=xs.length->Mg h A m (val b32 xs)->K (.slice A m ac) h):aJ prog 200 #[.slice A xs.length ac] h K:=by
 refine Ls s hc hl ?_
 intro m a d b
 refine hK m a ⟨xs.take m,gz0,?_,hd.take m,d,b⟩
 have:=s.cut (c:=ac) (l:=0) (m:=m) o a hc
 simpa [F7] using this
def Pl{x y:Int}{an bn:Nat}(ma:Mg h A an x)(mb:Mg h B bn y)(hl:an<=100000000000000)(hK:K (I (if x<y then -1 else if x>y then 1 else 0)) h):aJ prog 225 #[.slice A an ac,.slice B bn bc] h K:=by
 obtain ⟨a,rfl,r,c,E,rfl⟩:=ma
 obtain ⟨m,rfl,n,b,w,rfl⟩:=mb
 refine (fnk func225 [(6,[5],[],[I 0])]) ?_
 refine T6 (fun z=>B5 (fun g=>?_) (fun g=>?_)) (fun z=>?_)
 ·have:=Bs dc c b w o
  grind
 ·have:=Bs dc b c E o
  grind
 ·have q:a.length=m.length:=o
  refine ⟨fun l s=>∃ k:Nat,l=[I ((k:Int)-1)]/\k<=a.length/\s=h/\a.drop k=m.drop k,fun l _=>(iAt l 0+1).toNat,⟨a.length,?_,Nat.le_refl _,rfl,?_⟩,?_⟩
  ·rw [B4 o o]
  ·grind
  rintro i G ⟨k,D,F,rfl,d⟩
  obtain rfl:i=(k:Int)-1:=gz0
  refine B5 (fun g=>?_) (fun g=>?_)
  ·obtain ⟨j,rfl⟩:∃ j,k=j+1:=⟨k-1,o⟩
   have e:((j+1:Nat):Int)-1=(j:Int):=o
   rw [e]
   refine r.load rfl o o ?_
   refine n.load rfl o o ?_
   rw [aD]
   refine T6 (fun C=>?_) (fun C=>?_)
   ·refine r.load rfl o o ?_
    refine n.load rfl o o ?_
    rw [aD]
    refine B5 (fun p=>?_) (fun p=>?_)
    ·have:=Bq dc c b (i:=j) o o d p
     grind
    ·have:=Bq dc b c (i:=j) o o d.symm o
     grind
   ·rw [B4 o o]
    refine ⟨⟨j,rfl,o,rfl,?_⟩,by simp only [iAt,aO];omega⟩
    rw [aN (show j<a.length from o),aN (show j<m.length from o),d]
    grind
  ·have u:k=0:=o
   grind
end
def C0(B:Int)(xs:List Int)(i:Nat):val B (xs.take (i+1))=val B (xs.take i)+B^i*xs.getD i 0:=by
 by_cases a:i<xs.length
 ·exact H4 B a
 ·rw [aH o,aH o]
  grind
def Me{c:Int}:aE c (2^(min ((32:Int)).toNat 64))=c/4294967296:=by
 grind
def S6{xs:List Int}(d:Dig b32 xs)(i:Nat):0<=xs.getD i 0/\xs.getD i 0<4294967296:=d.getD dc i
def Uw(c:Int):0<=c%4294967296/\c%4294967296<b32:=⟨Int.emod_nonneg _ dc,Int.emod_lt_of_pos _ dc⟩
def Oq{xs:List Int}{i j:Nat}{v:Int}(h:i≠j):(xs.set i v).getD j 0=xs.getD j 0:=by
 grind
def R4{B P v c:Int}:v+P*(c%B)+c/B*(P*B)=v+P*c:=by
 have:=Int.emod_add_mul_ediv c B
 grind
section
variable {h g:aG} {K:VP} {A B:Option aM} {ac bc:Nat}
def Pu{x y:Int}{an bn:Nat}(ma:Mg h A an x)(mb:Mg h B bn y)(hab:bn<=an)(hl:an<=18000000000000)(hK:∀ A' m c' h',h.le h'->m<=c'->Mg h' A' m (x+y)->K (.slice A' m c') h'):
 wpH prog (aK 40 (I (B6 ((an:Int)+1))) (I (B6 ((an:Int)+1)))) (fun v hp1=>∃ (t18A:Option aM) (t18n:Nat) (t18c:Nat),v= .slice t18A t18n t18c/\∃ (Invv:LP) (muv:LN),Invv [U (0:Int),I (0:Int)] hp1/\
 ∀ (c:Int) (i:Int),∀ hp2,Invv [U c,I i] hp2->Br (decide (i<((an:Nat):Int))) (∃ a2,A=some a2/\0<=i/\i<((an:Nat):Int)/\∃ (t29:Int),Heap.cell? hp2 (aL a2 ((i).toNat*1))=some (U32 t29)/\∃ (Jv1:LP),(Br (decide (i<((bn:Nat):Int))) (∃ a3,B=some a3/\0<=i/\i<((bn:Nat):Int)/\∃ (t40:Int),Heap.cell? hp2 (aL a3 ((i).toNat*1))=some (U32 t40)/\Jv1 [U (B9 ((B9 (c+(B9 t29)))+(B9 t40)))] hp2)
 (Jv1 [U (B9 (c+(B9 t29)))] hp2))/\
 ∀ (c1:Int),∀ hp3,Jv1 [U c1] hp3->∃ a4,t18A=some a4/\0<=i/\i<((t18n:Nat):Int)/\wpH prog (aC 173 (.pointer (some (aL a4 ((i).toNat*1)))) (U32 (F0 c1))) (fun _ hp4=>Invv [U (aE c1 (2^(min ((32:Int)).toNat 64))),I (B6 (i+(1:Int)))] hp4/\muv [U (aE c1 (2^(min ((32:Int)).toNat 64))),I (B6 (i+(1:Int)))] hp4<muv [U c,I i] hp2) hp3)
 (∃ a5,t18A=some a5/\0<=((an:Nat):Int)/\((an:Nat):Int)<((t18n:Nat):Int)/\wpH prog (aC 173 (.pointer (some (aL a5 ((((an:Nat):Int)).toNat*1)))) (U32 (F0 c))) (fun _ hp5=>aJ prog 200 #[.slice t18A t18n t18c] hp5 (fun r hp6=>∃ (t57A:Option aM) (t57n:Nat) (t57c:Nat),r= .slice t57A t57n t57c/\K (.slice t57A t57n t57c) hp6)) hp2)) h:=by
 obtain ⟨a,rfl,L,W,nx,rfl⟩:=ma
 obtain ⟨d,rfl,D,O,ny,rfl⟩:=mb
 have Q:B6 ((a.length:Int)+1)=(a.length:Int)+1:=B4 o o
 rw [Q]
 refine H0 Ha o o o ?_
 intro b w
 have H:((a.length:Int)+1).toNat=a.length+1:=o
 rw [H]
 refine ⟨_,_,_,rfl,?_⟩
 refine ⟨fun l h'=>∃ (k:Nat) (c:Int) (zs:List Int),l=[U c,I k]/\k<=a.length/\zs.length=a.length+1/\Dig b32 zs/\(0<=c/\c<=1)/\h'=blk .u32 173 h b zs/\val b32 (zs.take k)+c*b32^k=val b32 (a.take k)+val b32 (d.take k),fun l _=>a.length-(iAt l 1).toNat,⟨0,0,_,rfl,o,by simp,F3 dc _,o,rfl,by rfl⟩,?_⟩
 rintro c i hp ⟨k,c',zs,V,X,G,s,hc,rfl,S⟩
 obtain ⟨rfl,rfl⟩:c=c'/\i=(k:Int):=gz0
 have p:=V8 (k:=.u32) (e:=173) w zs
 refine B5 (fun F=>?_) (fun F=>?_)
 ·have gx:=S6 W k
  have gy:=S6 O k
  have E:=C0 b32 a k
  have M:=C0 b32 d k
  refine (L.mono p).load rfl o o ?_
  rw [aD]
  refine ⟨fun l h'=>l=[U (c+a.getD k 0+d.getD k 0)]/\h'=blk .u32 173 h b zs,B5 (fun C=>?_) (fun C=>?_),?_⟩
  ·refine (D.mono p).load rfl o o ?_
   rw [aD]
   refine ⟨?_,rfl⟩
   rw [B8 (n:=a.getD k 0) o o,B8 (n:=d.getD k 0) o o,B8 (n:=c+a.getD k 0) o o,B8 o o]
  ·refine ⟨?_,rfl⟩
   have z:d.getD k 0=0:=gz0
   rw [z,B8 (n:=a.getD k 0) o o,B8 o o];simp
  ·rintro c1 hp3 ⟨T,rfl⟩
   obtain rfl:c1=c+a.getD k 0+d.getD k 0:=gz0
   refine ⟨_,rfl,o,o,?_⟩
   refine K4 (k:=.u32) (zs:=zs) (i:=(k:Int)) G8 o ?_
   rw [aD,W8,Me,B4 (n:=(k:Int)+1) o o]
   refine ⟨⟨k+1,_,zs.set k ((c+a.getD k 0+d.getD k 0)%4294967296),rfl,o,gz0,s.set (Uw _),o,rfl,?_⟩,by simp only [iAt,aO,List.getElem?_cons_succ];omega⟩
   rw [C5 o,D8,List.length_take,Nat.min_eq_left o,Int.pow_succ,R4,E,M]
   grind
 ·have q:k=a.length:=o
  subst q
  refine ⟨_,rfl,o,o,?_⟩
  refine K4 G8 o ?_
  rw [aD,I6 o o]
  have j:(zs.set a.length c).length=a.length+1:=gz0
  have g:val b32 (zs.set a.length c)=val b32 a+val b32 d:=by
   have R:zs.set a.length c=zs.take a.length++[c]:=by
    rw [<- C5 o,aH o]
   rw [R,D8,List.length_take,Nat.min_eq_left o]
   rw [List.take_length,aH (show d.length<=a.length from o)] at S
   grind
  rw [<- j]
  refine S8 (V7 _ _ _ _ _) (s.set ⟨o,gz0⟩) (Nat.le_refl _) o ?_
  intro m N u
  rw [g] at u
  exact ⟨_,_,_,rfl,hK _ _ _ _ (V8 w _) N u⟩
def Ps{x y:Int}{an bn:Nat}(ma:Mg h A an x)(mb:Mg h B bn y)(hl:an<=18000000000000)(hl2:bn<=18000000000000)(hK:∀ A' m c' h',h.le h'->m<=c'->Mg h' A' m (x+y)->K (.slice A' m c') h'):aJ prog 201 #[.slice A an ac,.slice B bn bc] h K:=by
 refine (fnk func201 [(6,[6,7],[],[U 0,I 0])] (cs:=[(3,[0,1],[],[.slice none 0 0,.slice none 0 0]),(11,[6],[],[U 0])])) ?_
 refine ⟨fun l h'=>h'=h/\∃ (A1 B1:Option aM) (a b q c:Nat) (n p:Int),l=[.slice A1 a q,.slice B1 b c]/\Mg h A1 a n/\Mg h B1 b p/\b<=a/\a<=18000000000000/\n+p=x+y,B5 (fun s=>?_) (fun s=>?_),?_⟩
 ·grind
 ·grind
 ·rintro A1 a q B1 b c C ⟨rfl,A1',B1',g,e,j,i,n,p,w,z,r,u,k,d⟩
  obtain ⟨⟨rfl,rfl,rfl⟩,rfl,rfl,rfl⟩:(A1=A1'/\a=g/\q=j)/\B1=B1'/\b=e/\c=i:=gz0
  rw [<- d] at hK
  exact Pu z r u k hK
end
