/- A part. -/
import Derived.Test.YtkfhdoblhajcbaaGreatDoorG26
open Go.Proofs.Tryz
set_option linter.all false
open _root_.Go.Addr renaming add->aI
open Classical renaming byContradiction->bD
open Int renaming toNat_natCast->aK
open List renaming replicate->aD,sum_cons->aP,getElem?_cons_zero->aQ,getElem?_cons_succ->aR,take_zero->aS,map_cons->aV,length_append->aW,take_length->aY,length_map->aZ
open List.cons renaming injEq->aH
open Nat renaming mul_le_mul_right->aC,mul_le_mul->aF,le_refl->aJ,le_trans->bF
open Rat renaming one_mul->aN,divInt_eq_div->aO,add_zero->aX,divInt->bC
open _root_.Go.Value.int renaming injEq->aG
open _root_.Go.Value.slice renaming injEq->aE
open _root_.Go renaming Addr->aU
open _root_.Go.Proofs.YtkfhdoblhajcbaaGreatDoor renaming Heap->aL,FCall->aM,RowV->aT
namespace Go.Proofs.YtkfhdoblhajcbaaGreatDoor
set_option maxRecDepth 20000
open Go
def B8b{f:QT->QT}{ts:List QT}{i:Nat}(h:i<ts.length):tg (ts.map f) i=f (tg ts i):=by
 simp [tg,List.getD,h]
def A35{a:List QT}{i:Nat}(h:i<a.length):a.take (i+1)=a.take i++[tg a i]:=by
 rw [List.take_succ_eq_append_getElem h];simp [tg,List.getD,h]
def B38(g:List Int->Rat)(c:Rat)(a:List QT):psm g (a.map fun t=>(c*t.1,t.2))=c*psm g a:=by
 induction a with
 | nil=>simp only [List.map_nil,psm];grind
 | cons t ts ih=>rw [aV];simp only [psm,ih];grind
def shT(te:List Int)(tq:Rat)(t:QT):QT:=(t.1*tq,opL (fun x y=>x+y) t.2 te)
def C01(g:List Int->Rat)(te:List Int)(tq:Rat)(ts:List QT):psm g (ts.map (shT te tq))=psm (fun e=>tq*g (opL (fun x y=>x+y) e te)) ts:=by
 induction ts with
 | nil=>rfl
 | cons t ts ih=>
  rw [aV]
  show t.1*tq*g (opL (fun x y=>x+y) t.2 te)+_=t.1*(tq*g (opL (fun x y=>x+y) t.2 te))+_
  rw [ih];grind
def A8t:∀ (a b:List Int),a.length=b.length->(opL (fun x y=>x+y) a b).sum=a.sum+b.sum
 | [],[],_=>rfl
 | x::a,y::b,h=>by
  have ih:=A8t a b (by simpa using h)
  have e:opL (fun x y=>x+y) (x::a) (y::b)=(x+y)::opL (fun x y=>x+y) a b:=by
   unfold opL
   rw [List.length_cons,List.range_succ_eq_map,aV,List.map_map]
   congr 1
  rw [e,aP,aP,aP,ih];omega
def Xw{a b:List Int}{E F:Nat}(hl:a.length=b.length)(ha:Rng E a)(hb:Rng F b):Rng (E+F) (opL (fun x y=>x+y) a b):=by
 refine ⟨fun z d=>?_,?_⟩
 ·unfold opL at d
  obtain ⟨i,c,rfl⟩:=List.mem_map.1 d
  rw [List.mem_range] at c
  have:=ha.1 _ (Bn c)
  have:=hb.1 _ (Bn (show i<b.length from o))
  show 0<=a.getD i 0+b.getD i 0
  omega
 ·rw [A8t a b hl]
  have:=ha.2;have:=hb.2
  omega
section
variable {h h' hp:aL} {K:VP} {A B TB:Option aU} {c cc tc m m2 n n2 v E E2:Nat} {ts us:List QT} {te:List Int} {tw:QV} {tq:Rat}
def Ro{j:Nat}(hv:v<=100)(hj:j<v)(hK:∀ A' c' h',h.le h'->1<=c'->aT RPr h' A' 1 (tg [((1:Int),(aD v (0:Int)).set j 1)])->K (.agg #[I (v:Int),.slice A' 1 c']) h'):aM prog 36 #[I (v:Int),I (j:Int)] h K:=by
 refine (fnk func36 (own:=[4])) ?_
 refine Hn Iy o o o o fun b m=>⟨_,_,_,rfl,_,rfl,o,by simpa using hj,?_⟩
 simp only [aK]
 have e:F5 (Value.int .i64 0).cells v=((aD v 0).map (Value.int .i64)).toArray:=by
  rw [show (Value.int .i64 0).cells=#[.int .i64 0] from rfl,S8,<- List.map_replicate]
 rw [e]
 refine V7 (g:=h) (zs:=aD v 0) (i:=j) Cd (by simpa using hj) ?_
 have d:h.le (blk .i64 3 h b ((aD v 0).set j 1)):=Heap.le_put _ m
 have l:SlI .i64 (blk .i64 3 h b ((aD v 0).set j 1)) (some ⟨b,0,none⟩) ((aD v 0).set j 1):=Aw _ _ _ _ _
 generalize blk .i64 3 h b ((aD v 0).set j 1)=h0 at *
 refine Gh o fun w p a c=>⟨_,_,_,_,_,_,_,_,rfl,?_⟩
 refine Iw (R:=RPr) (f:=tg [((1:Int),(aD v (0:Int)).set j 1)]) A88 (y:=(⟨w,some ⟨b,0,none⟩,v,v⟩:TRm)) (by rfl) dc ⟨c,by simp [tg],l.mono a⟩ fun q n k L=>⟨_,_,_,rfl,hK _ _ _ (B0 d (B0 a k)) (aJ _) (L.row Aa)⟩
def Po(r:aT RPr h A n (tg ts))(hl:ts.length=n)(hn:n<=100)(o:TOk v E m ts)(it:NQ h tw tq)(st:SlI .i64 h TB te)(hte:te.length=v)(hbe:Rng E2 te)(sq:Sz m2 tq)(hv:v<=6)(hE:E+E2<=1000)(hm:n*(m+m2+1)+(m+m2)<=400000000)
 (hK:∀ A' c' n' ts' h',h.le h'->aT RPr h' A' n' (tg ts')->ts'.length=n'->n'<=n->n'<=c'->TOk v (E+E2) (n*(m+m2+1)) ts'->(∀ g,psm g ts'=psm (fun e=>tq*g (opL (fun x y=>x+y) e te)) ts)->K (.agg #[I (v:Int),.slice A' n' c']) h'):
 aM prog 43 #[.agg #[I (v:Int),.slice A n c],.agg #[.bool tw.s,.slice tw.A tw.n tw.c,.bool tw.s2,.slice tw.A2 tw.n2 tw.c2,.slice TB v tc]] h K:=by
 refine (fnk func43 [(3,[5,6],[],[.slice none 0 0,I 0]),(7,[8],[],[I 0])] (os:=[(10,[0,1,2,3,4,5,6,7,8,10,9,11,12,13,14])]) (own:=[2,3,4]) (wr:=[1000000000])) ?_
 refine ⟨fun L G=>∃ (i:Nat) (A':Option aU) (c':Nat) (g:aL),i<=n/\L=[.slice A' i c',I (i:Int)]/\h.le g/\Lst RPr 86 g G A' c' i (tg (ts.map (shT te tq))),fun L _=>n-(iAt L 1).toNat,⟨0,none,0,h,oo,rfl,B7 _,Lst.nil⟩,?_⟩
 rintro lA d lc z G ⟨i,A',c',g,hi,eL,S,L⟩
 simp only [aH,aE,aG,true_and,and_true] at eL
 obtain ⟨⟨rfl,rfl,rfl⟩,rfl⟩:=eL
 refine C0 (fun af=>?_) (fun ae=>?_)
 ·have aa:d<n:=oo
  have mi:=o _ (Jb (i:=d) oo)
  obtain ⟨a,w,e,H,hc⟩:=r.rp aa
  have B:(opL (fun x y=>x+y) (tg ts d).2 te).length=v:=by rw [N3];exact mi.1
  refine Hn Iy oo oo oo oo fun f F=>⟨_,_,_,rfl,?_⟩
  rw [aK]
  refine ⟨fun L2 hx=>∃ k:Nat,k<=v/\L2=[I (k:Int)]/\hx=G.put f (.cells (Ci I (I 0) (opL (fun x y=>x+y) (tg ts d).2 te) k).toArray 3),fun L2 _=>v-(iAt L2 0).toNat,⟨0,oo,rfl,?_⟩,?_⟩
  ·rw [Ov,B];congr 2;exact S8 _ _
  rintro z2 hx ⟨k,hk,O,rfl⟩
  obtain rfl:=sI1 O
  have D:∀ u,G.le (G.put f u):=fun u=>Heap.le_put u F
  have C:=B0 S L.le
  refine C0 (fun h2=>?_) (fun h2=>?_)
  ·have X:k<v:=oo
   refine ⟨a,e,oo,oo,_,_,_,C2 (B0 C (D _)) (hc 4 _ rfl),?_⟩
   refine (H.2.2.mono (B0 C (D _))).load H.2.1 oo (by rw [H.2.1,mi.1];omega) ?_
   refine (st.mono (B0 C (D _))).load hte.symm oo oo ?_
   rw [aK]
   refine ⟨_,rfl,oo,oo,?_⟩
   have x1:=mi.2.1.at (Bn (show k<(tg ts d).2.length by rw [mi.1];exact X))
   have x2:=hbe.at (Bn (show k<te.length from oo))
   rw [wiS k oo]
   refine Hh Cd (zs:=opL (fun x y=>x+y) (tg ts d).2 te) (i:=k) oo ?_ ⟨⟨k+1,oo,rfl,rfl⟩,by simp only [R9];omega⟩
   rw [B01]
   exact C1 oo oo
  ·obtain rfl:k=v:=oo
   obtain ⟨M,o1,Q,ad,s1,w1,V,r1⟩:=L
   have R:M f=none:=s1.free F
   have hs:SlI .i64 (M.put f (.cells (Ci I (I 0) (opL (fun x y=>x+y) (tg ts d).2 te) k).toArray 3)) (some ⟨f,0,none⟩) (opL (fun x y=>x+y) (tg ts d).2 te):=by
    rw [show k=(opL (fun x y=>x+y) (tg ts d).2 te).length from B.symm,Na];exact SlI.new M f _ _ _
   have sv:=s1.vis F (.cells (Ci I (I 0) (opL (fun x y=>x+y) (tg ts d).2 te) k).toArray 3)
   have lv:=Heap.le_put (.cells (Ci I (I 0) (opL (fun x y=>x+y) (tg ts d).2 te) k).toArray 3) R
   generalize M.put f (.cells (Ci I (I 0) (opL (fun x y=>x+y) (tg ts d).2 te) k).toArray 3)=g2 at *
   generalize G.put f (.cells (Ci I (I 0) (opL (fun x y=>x+y) (tg ts d).2 te) k).toArray 3)=hp2 at *
   have l:=B0 S (B0 ad lv)
   have L2:Lst RPr 86 g2 hp2 lA lc d (tg (ts.map (shT te tq))):=⟨g2,o1,Q,B7 _,sv,w1,V,r1.mono Aa lv⟩
   have z0:=Y7 (aI a (d*5))
   have N:=fun j u q=>(show hp2.cell? (aI (aI (aI a (d*5)) 0) j)=some u by rw [z0];exact C2 (B0 l L2.le) (hc j u q))
   refine ⟨a,e,oo,oo,_,_,_,_,_,_,_,_,N 0 _ rfl,N 1 _ rfl,N 2 _ rfl,N 3 _ rfl,?_⟩
   refine L2.call Aa fun g3 p=>S7 (a:=w.w) (b:=tw) (m:=m+m2) (NQ.mono (B0 l p) H.1) (NQ.mono (B0 l p) it) (mi.2.2.mono oo) (sq.mono oo) oo fun w4 h4 W i4=>⟨W,fun h5 l5 L5=>⟨_,_,_,_,_,_,_,_,rfl,l5,?_⟩⟩
   refine L5.pushG Aa A88 rfl (y:=(⟨w4,some ⟨f,0,none⟩,k,k⟩:TRm)) (by rfl) ?_ dc oo fun A6 c6 h6 L6=>?_
   ·rw [B8b oo]
    exact ⟨i4,B.symm,hs.mono (B0 p W)⟩
   rw [wiS d oo]
   exact ⟨⟨d+1,_,_,_,oo,rfl,B0 l (B0 p W),L6⟩,by simp only [iAt,aR,aQ];omega⟩
 ·obtain rfl:d=n:=oo
  refine Ei (L.row Aa) (by rw [aZ];exact hl) L.cap oo (m:=m+m2) (E:=E+E2) (v:=v) (fun t ht=>?_) hv hE hm fun A7 c7 n7 ag h7 l7 r7 e7 T ac o7 p7=>⟨_,_,_,_,rfl,hK _ _ _ _ _ (B0 (B0 S L.le) l7) r7 e7 T ac o7 fun g=>by rw [p7,C01]⟩
  obtain ⟨t0,h0,rfl⟩:=List.mem_map.1 ht
  obtain ⟨x1,x2,x3⟩:=o t0 h0
  exact ⟨by show (opL _ _ _).length=v;rw [N3];exact x1,Xw (by rw [x1,hte]) x2 hbe,x3.mul sq⟩
def A0k(ra:aT RPr h A n (tg ts))(hl:ts.length=n)(hn:n<=10)(o:TOk v E m ts)(rb:aT RPr h B n2 (tg us))(hl2:us.length=n2)(hn2:n2<=10)(o2:TOk v E2 m2 us)(hv:v<=6)(hE:E+E2<=1000)(hm:m+m2<=200000)
 (hK:∀ A' c' n' ts' h',h.le h'->aT RPr h' A' n' (tg ts')->ts'.length=n'->n'<=n*n2->n'<=c'->TOk v (E+E2) (n2*n*(n*(m+m2+1)+1)) ts'->(∀ g,psm g ts'=psm (fun e2=>psm (fun e=>g (opL (fun x y=>x+y) e e2)) ts) us)->K (.agg #[I (v:Int),.slice A' n' c']) h'):
 aM prog 35 #[.agg #[I (v:Int),.slice A n c],.agg #[I (v:Int),.slice B n2 cc]] h K:=by
 refine (fnk func35 [(3,[5,6],[],[.slice none 0 0,I 0])] (own:=[2,3,4]) (wr:=[1000000000])) ?_
 refine ⟨fun L N=>∃ (i l:Nat) (f:List QT) (A':Option aU) (c':Nat),i<=n2/\l<=i*n/\L=[.slice A' l c',I (i:Int)]/\LsP RPr 86 h N A' c' l (tg f)/\f.length=l/\TOk v (E+E2) (n*(m+m2+1)) f/\(∀ g,psm g f=psm (fun e2=>psm (fun e=>g (opL (fun x y=>x+y) e e2)) ts) (us.take i)),fun L _=>n2-(iAt L 1).toNat,⟨0,0,[],none,0,oo,oo,rfl,LsP.nil,rfl,fun t d=>(by cases d),fun g=>by rw [aS];rfl⟩,?_⟩
 rintro lA ln lc z N ⟨i,l,f,A',c',hi,H,M,L,s,Q,eq⟩
 simp only [aH,aE,aG,true_and,and_true] at M
 obtain ⟨⟨rfl,rfl,rfl⟩,rfl⟩:=M
 have af:n*n2<=10*10:=aF hn hn2
 have h1:n*(m+m2+1)<=10*(m+m2+1):=aC _ hn
 refine C0 (fun W=>?_) (fun S=>?_)
 ·have k:i<n2:=oo
  have mi:=o2 _ (Jb (i:=i) oo)
  obtain ⟨a,w,e,F,hc⟩:=rb.rp k
  have p:=fun j u q=>C2 L.le (hc j u q)
  refine ⟨a,e,oo,oo,_,_,_,_,_,_,_,_,_,_,_,p 0 _ rfl,p 1 _ rfl,p 2 _ rfl,p 3 _ rfl,p 4 _ rfl,?_⟩
  have R:(i+1)*n<=n2*n:=aC _ k
  have T:(i+1)*n=i*n+n:=by rw [Nat.add_mul,Nat.one_mul]
  have r:n2*n=n*n2:=Nat.mul_comm _ _
  rw [F.2.1,mi.1]
  refine L.call Aa fun g3 b=>Po (m2:=m2) (E2:=E2) (ra.mono Aa b) hl oo o (NQ.mono b F.1) (F.2.2.mono b) mi.1 mi.2.1 mi.2.2 hv hE oo fun A4 c4 n4 D h4 O r4 e4 aa ae o4 V=>⟨O,fun h5 l5 L5=>⟨_,_,_,_,rfl,l5,?_⟩⟩
  refine L5.app Aa A88 rfl (f':=tg (f++D)) r4 (fun j hj=>Xe oo) (fun j _=>Xd s) dc oo fun A6 c6 h6 L6=>⟨_,_,_,rfl,?_⟩
  rw [wiS i oo]
  refine ⟨⟨i+1,_,_,_,_,oo,oo,rfl,L6.weak (B0 b O),by rw [aW,s,e4],fun t d=>?_,fun g=>?_⟩,by simp only [iAt,aR,aQ];omega⟩
  ·rcases List.mem_append.1 d with x|x
   ·exact Q t x
   ·exact o4 t x
  ·rw [Sb,eq,V,B6l,A35 oo,Sb]
   show _=_+((tg us i).1*psm (fun e=>g (opL (fun x y=>x+y) e (tg us i).2)) ts+0)
   grind
 ·obtain rfl:i=n2:=oo
  have r:i*n=n*i:=Nat.mul_comm _ _
  have h3:ln*(n*(m+m2+1)+1)<=i*n*(n*(m+m2+1)+1):=aC _ H
  have h4:i*n*(n*(m+m2+1)+1)<=100*(10*(m+m2+1)+1):=aF oo oo
  refine Ei (L.row Aa) s L.cap oo (m:=n*(m+m2+1)) (E:=E+E2) (v:=v) Q hv hE oo fun A7 c7 n7 ac h7 l7 r7 X ad G C p7=>⟨_,_,_,_,rfl,hK _ _ _ _ _ (B0 L.le l7) r7 X oo G (fun t d=>⟨(C t d).1,(C t d).2.1,(C t d).2.2.mono h3⟩) fun g=>by rw [p7,eq,<- hl2,aY]⟩
def A3d{cw:QV}{cq:Rat}(ra:aT RPr h A n (tg ts))(hl:ts.length=n)(hn:n<=20)(o:TOk v E m ts)(rb:aT RPr h B n2 (tg us))(hl2:us.length=n2)(hn2:n2<=20)(o2:TOk v E m us)(ic:NQ h cw cq)(sc:Sz m2 cq)(hv:v<=6)(hE:E<=1000)(hm:m+m2<=1000000)
 (hK:∀ A' c' n' ts' h',h.le h'->aT RPr h' A' n' (tg ts')->ts'.length=n'->n'<=n+n2->n'<=c'->TOk v E ((n+n2)*(m+m2+1)) ts'->(∀ g,psm g ts'=psm g ts+cq*psm g us)->K (.agg #[I (v:Int),.slice A' n' c']) h'):
 aM prog 39 #[.agg #[I (v:Int),.slice A n c],cw.v,.agg #[I (v:Int),.slice B n2 cc]] h K:=by
 refine (fnk func39 [(3,[7,8],[],[.slice none 0 0,I 0])] (os:=[(5,[0,1,2,3,4,5,6,7,9,10,11,12,13,14,8,15,16,17,18])]) (own:=[3,4,5,6]) (wr:=[1000000000])) ?_
 refine Om A88 fun M H=>⟨_,_,_,rfl,?_⟩
 have k:=Heap.le_put (.cells #[] 86) H
 generalize h.put M (.cells #[] 86)=h0 at *
 refine (LsP.nil (R:=RPr) (e:=86) (h0:=h0) (A:=some ⟨M,0,none⟩) (f:=tg [])).app Aa A88 rfl (f':=tg ts) (ra.mono Aa k) (fun j hj=>oo) (fun j _=>by rw [Nat.zero_add]) dc oo fun A1 c1 h1 L1=>⟨_,_,_,rfl,?_⟩
 rw [Nat.zero_add] at L1 ⊢
 refine ⟨fun L s=>∃ (i:Nat) (A':Option aU) (c':Nat),i<=n2/\L=[.slice A' (n+i) c',I (i:Int)]/\LsP RPr 86 h0 s A' c' (n+i) (tg (ts++(us.take i).map fun t=>(cq*t.1,t.2))),fun L _=>n2-(iAt L 1).toNat,⟨0,_,_,oo,rfl,by rw [aS,List.map_nil,List.append_nil];exact L1⟩,?_⟩
 rintro lA ln lc z s ⟨i,A',c',hi,O,L⟩
 simp only [aH,aE,aG,true_and,and_true] at O
 obtain ⟨⟨rfl,rfl,rfl⟩,rfl⟩:=O
 refine C0 (fun T=>?_) (fun Q=>?_)
 ·have F:i<n2:=oo
  have mi:=o2 _ (Jb (i:=i) oo)
  obtain ⟨a,w,e,C,hc⟩:=rb.rp F
  have z0:=Y7 (aI a (i*5))
  have l:=fun j u q=>C2 (B0 k L.le) (hc j u q)
  have p:=fun j u q=>(show s.cell? (aI (aI (aI a (i*5)) 0) j)=some u by rw [z0];exact l j u q)
  refine ⟨a,e,oo,oo,_,_,_,_,_,_,_,_,p 0 _ rfl,p 1 _ rfl,p 2 _ rfl,p 3 _ rfl,a,e,oo,oo,_,_,_,l 4 _ rfl,?_⟩
  refine L.call Aa fun g3 d=>S7 (a:=cw) (b:=w.w) (m:=m+m2) (NQ.mono (B0 k d) ic) (NQ.mono (B0 k d) C.1) (sc.mono oo) (mi.2.2.mono oo) oo fun S h4 D i4=>⟨D,fun h5 X L5=>⟨_,_,_,_,_,_,_,_,rfl,X,?_⟩⟩
  have ll:(ts++(us.take i).map fun t=>(cq*t.1,t.2)).length=n+i:=by rw [aW,hl,aZ,List.length_take];omega
  have N:ts++(us.take (i+1)).map (fun t=>(cq*t.1,t.2))=(ts++(us.take i).map fun t=>(cq*t.1,t.2))++[(cq*(tg us i).1,(tg us i).2)]:=by
   rw [A35 oo,List.map_append,List.append_assoc];rfl
  refine L5.push Aa A88 rfl (f':=tg (ts++(us.take (i+1)).map fun t=>(cq*t.1,t.2))) (fun j hj=>by rw [N];exact Xe oo) (y:=(⟨S,w.B,w.n,w.c⟩:TRm)) (by rfl) ?_ dc oo fun A6 c6 h6 L6=>?_
  ·rw [N,show n+i=n+i+0 from rfl,Xd ll]
   exact ⟨i4,C.2.1,C.2.2.mono (B0 k (B0 d D))⟩
  rw [wiS i oo]
  exact ⟨⟨i+1,_,_,oo,rfl,L6.weak (B0 d D)⟩,by simp only [iAt,aR,aQ];omega⟩
 ·obtain rfl:i=n2:=oo
  have h1:(n+i)*(m+m2+1)<=40*(m+m2+1):=aC _ oo
  rw [<- hl2,aY,hl2] at L
  refine Ei (L.row Aa) (by rw [aW,aZ,hl,hl2]) L.cap oo (m:=m+m2) (E:=E) (v:=v) (fun t W=>?_) hv hE oo fun A7 c7 n7 aa h7 l7 r7 V r G o7 p7=>⟨_,_,_,_,rfl,hK _ _ _ _ _ (B0 k (B0 L.le l7)) r7 V r G o7 fun g=>by rw [p7,Sb,B38]⟩
  rcases List.mem_append.1 W with x|x
  ·exact ⟨(o t x).1,(o t x).2.1,(o t x).2.2.mono oo⟩
  ·obtain ⟨t0,h0,rfl⟩:=List.mem_map.1 x
   exact ⟨(o2 t0 h0).1,(o2 t0 h0).2.1,(sc.mul (o2 t0 h0).2.2).mono oo⟩
def A0m{D mv:Nat}{V:Nat->Rat}{p0:Int}(f:RnV h A v D mv V)(r:aT RPr h B n (tg ts))(hl:ts.length=n)(hn:n<=10)(o:TOk v E m ts)(hD:∀ t∈ts,∃ k,k<(mo v D).length/\t.2=mon v D k)(hm:m<=30000000)
 (hK:∀ w h',h.le h'->NQ h' w (psm (fun e=>V (Ut e).toNat) ts)->K w.v h'):
 aM prog 42 #[.agg #[I (v:Int),I (D:Int),.slice A (mo v D).length c],.agg #[I p0,.slice B n cc]] h K:=by
 have ai:=f.m15
 refine (fnk func42 [(3,[11],[(5,4)],[I 0,.bool false,.slice none 0 0,.bool false,.slice none 0 0])] (own:=[2,3,4,5,7])) ?_
 refine ⟨fun L p=>∃ (i:Nat) (w:QV),i<=n/\L=[I (i:Int),.bool w.s,.slice w.A w.n w.c,.bool w.s2,.slice w.A2 w.n2 w.c2]/\h.le p/\NQ p w (psm (fun e=>V (Ut e).toNat) (ts.take i))/\Sz (1+i*(m+mv+1)) (psm (fun e=>V (Ut e).toNat) (ts.take i)),fun L _=>n-(iAt L 0).toNat,⟨0,S3,oo,rfl,B7 _,by rw [aS];exact NQ.zero,by rw [aS];exact Sz.zero oo⟩,?_⟩
 rintro z d0 ah ad ag d2 ac af ae p ⟨i,w,hi,O,g,y,S⟩
 simp only [aH,aG,aE,Value.bool.injEq,true_and,and_true] at O
 obtain ⟨rfl,rfl,⟨rfl,rfl,rfl⟩,rfl,⟨rfl,rfl,rfl⟩⟩:=O
 refine C0 (fun aa=>?_) (fun W=>?_)
 ·have H:i<n:=oo
  have d:=Jb (a:=ts) (i:=i) oo
  have mi:=o _ d
  obtain ⟨k,C,F⟩:=hD _ d
  obtain ⟨a,u,e,M,hc⟩:=r.rp H
  have l:=fun j x q=>C2 g (hc j x q)
  refine ⟨a,e,oo,oo,_,_,_,_,_,_,_,_,_,_,_,l 0 _ rfl,l 1 _ rfl,l 2 _ rfl,l 3 _ rfl,l 4 _ rfl,?_⟩
  have R:=M.2.2
  rw [F] at R
  rw [M.2.1,F]
  have ev:(Ut (tg ts i).2).toNat=k:=by rw [F];exact ((O3 f.v1 f.v2 f.d6).val k C).2.2
  refine A0o (f.mono g) C (R.mono g) fun w2 i2=>⟨_,_,_,_,_,_,_,_,rfl,B7 _,?_⟩
  have N:=f.sz k C
  refine S7 (a:=u.w) (b:=w2) (m:=m+mv) (NQ.mono g M.1) i2 (mi.2.2.mono oo) (N.mono oo) oo fun w3 h3 G i3=>⟨_,_,_,_,_,_,_,_,rfl,G,?_⟩
  have hb:i*(m+mv+1)<=10*(m+mv+1):=aC _ oo
  refine Ej (a:=w) (b:=w3) (m:=1+11*(m+mv+1)) (NQ.mono G y) i3 (S.mono oo) ((mi.2.2.mul N).mono oo) oo fun X h4 Q i4=>⟨_,_,_,_,_,_,_,_,rfl,Q,?_⟩
  have T:psm (fun e=>V (Ut e).toNat) (ts.take (i+1))=psm (fun e=>V (Ut e).toNat) (ts.take i)+(tg ts i).1*V k:=by
   rw [A35 oo,Sb]
   show _+((tg ts i).1*V (Ut (tg ts i).2).toNat+0)=_
   rw [ev,aX]
  rw [wiS i oo]
  exact ⟨⟨i+1,X,oo,rfl,B0 g (B0 G Q),by rw [T];exact i4,by rw [T];exact (S.add (mi.2.2.mul N)).mono (by rw [Nat.add_mul,Nat.one_mul];omega)⟩,by simp only [R9];omega⟩
 ·obtain rfl:i=n:=oo
  refine hK w p g ?_
  rw [<- hl,aY] at y
  exact y
end
def A19{x y:Nat->Rat}: ∀ (e:List Int) (a:Nat),(∀ j,a<=j->j<a+e.length->x j=y j)->mvl x e a=mvl y e a
 | [],_,_=>rfl
 | e::es,a,h=>by
  unfold mvl
  rw [h a o (by simp),A19 es (a+1) fun j h1 h2=>h j o (by simp at h2 ⊢;omega)]
def B8g{s k:Nat}(hk:k<s)(f:Nat->Rat)(d:Rat):sm s (fun l=>if l=k then f l+d else f l)=sm s f+d:=by
 induction s with
 | zero=>omega
 | succ s ih=>
  unfold sm
  by_cases e:k=s
  ·subst e
   rw [C5 (g:=f) fun i a=>iN o]
   dsimp only
   rw [iP rfl]
   grind
  ·rw [ih o]
   dsimp only
   rw [iN o]
   grind
structure Mrg (v:Nat) (X:Nat->Nat->Rat) (w:Nat->Rat) (i s:Nat) (q:Nat->Nat) (U:Nat->Rat):Prop where
 le:s<=i
 s1:1<=i->1<=s
 lt:∀ k,k<s->q k<i
 dif:PtD s v fun k=>X (q k)
 pos:∀ k,k<s->0<U k
 sz:∀ k,k<s->Sz (9*i) (U k)
 sum:∀ e:List Int,e.length=v->sm i (fun l=>w l*mvl (X l) e 0)=sm s fun k=>U k*mvl (X (q k)) e 0
section
variable {v i s:Nat} {X:Nat->Nat->Rat} {w U:Nat->Rat} {q:Nat->Nat}
def Mrg.nil:Mrg v X w 0 0 q U:=⟨o,o,o,fun _ _ h=>o,o,o,fun _ _=>rfl⟩
def Mrg.new(m:Mrg v X w i s q U)(hw:0<w i)(hs:Sz 8 (w i))(hd:∀ k,k<s->∃ j,j<v/\X i j≠X (q k) j):Mrg v X w (i+1) (s+1) (fun k=>if k=s then i else q k) (fun k=>if k=s then w i else U k):=by
 refine ⟨by have:=m.le;omega,o,fun k a=>?_,fun k l a p c=>?_,fun k a=>?_,fun k a=>?_,fun e g=>?_⟩
 ·split
  ·omega
  ·have:=m.lt k o;omega
 ·by_cases d:k=s
  ·have b:l≠s:=o
   simp only [d,b,if_true,if_false]
   exact hd l o
  ·by_cases b:l=s
   ·simp only [d,b,if_true,if_false]
    obtain ⟨j,f,n⟩:=hd k o
    exact ⟨j,f,Ne.symm n⟩
   ·simp only [d,b,if_false]
    exact m.dif k l o o c
 ·split
  ·exact hw
  ·exact m.pos k o
 ·split
  ·exact hs.mono o
  ·exact (m.sz k o).mono o
 ·show sm i _+_=sm s _+_
  rw [m.sum e g]
  dsimp only
  rw [iP rfl,iP rfl]
  refine congrArg (· + _) (C5 fun k a=>?_)
  rw [iN o,iN o]
def Mrg.old(m:Mrg v X w i s q U)(hw:0<w i)(hs:Sz 8 (w i)){k:Nat}(hk:k<s)(he:∀ j,j<v->X i j=X (q k) j):Mrg v X w (i+1) s q (fun l=>if l=k then U l+w i else U l):=by
 refine ⟨by have:=m.le;omega,fun _=>o,fun l a=>by have:=m.lt l a;omega,m.dif,fun l a=>?_,fun l a=>?_,fun e b=>?_⟩
 ·split
  ·have:=m.pos l a;grind
  ·exact m.pos l a
 ·split
  ·exact ((m.sz l a).add hs).mono o
  ·exact (m.sz l a).mono o
 ·show sm i _+_=_
  rw [m.sum e b]
  dsimp only
  rw [A19 (x:=X i) (y:=X (q k)) e 0 fun j _ c=>he j o,<- B8g hk]
  refine C5 fun l a=>?_
  split
  ·rename_i h;rw [h];grind
  ·rfl
end
def B3i{v n:Nat}{X:Nat->Nat->Rat}{w:Nat->Rat}(hw:∀ l,l<n->0<w l/\Sz 8 (w l)):∀ i,i<=n->∃ s q U,Mrg v X w i s q U:=by
 intro i
 induction i with
 | zero=>exact fun _=>⟨0,fun _=>0,fun _=>0,Mrg.nil⟩
 | succ i ih=>
  intro d
  obtain ⟨s,q,U,M⟩:=ih o
  have h:=hw i o
  by_cases x:∃ k,k<s/\∀ j,j<v->X i j=X (q k) j
  ·obtain ⟨k,a,e⟩:=x
   exact ⟨_,_,_,M.old h.1 h.2 a e⟩
  ·exact ⟨_,_,_,M.new h.1 h.2 fun k a=>bD fun no=>x ⟨k,a,fun j b=>bD fun c=>no ⟨j,b,c⟩⟩⟩
def C2q:(mo 2 4).length=15:=by decide +kernel
def B6v:∀ a b:Fin 5,a.val+b.val<=4->∃ k:Fin 15,[((a.val:Nat):Int),((b.val:Nat):Int)]=mon 2 4 k:=by decide +kernel
def B51{e:List Int}(hl:e.length=2)(h:Rng 4 e):∃ k,k<(mo 2 4).length/\e=mon 2 4 k:=by
 obtain ⟨a,b,rfl⟩:∃ a b,e=[a,b]:=by
  match e,hl with
  | [a,b],_=>exact ⟨a,b,rfl⟩
 have d:=h.1 a (by simp);have g:=h.1 b (by simp)
 have c:=h.2
 simp only [aP,List.sum_nil] at c
 obtain ⟨k,f⟩:=B6v ⟨a.toNat,o⟩ ⟨b.toNat,o⟩ (by dsimp only;omega)
 refine ⟨k,by rw [C2q];exact k.isLt,?_⟩
 rw [<- f]
 simp only [Int.toNat_of_nonneg d,Int.toNat_of_nonneg g]
section
variable {s d D:Nat} {u:Nat->Rat} {y:Nat->Nat->Rat} {B:Nat->Nat->Rat}
def A8i{e:List Int}(hl:e.length=2)(h:Rng 4 e):ptV s u y 2 4 (Ut e).toNat=sm s fun l=>u l*mvl (y l) e 0:=by
 obtain ⟨k,a,rfl⟩:=B51 hl h
 rw [((O3 o o (show 4<=6 from o)).val k a).2.2]
 rfl
def Blk.comm(b:Blk s u B)(φ ψ:Nat->Rat){i j:Nat}(hi:i<s)(hj:j<s):sm s (fun t=>phM s u φ B i t*phM s u ψ B t j)=sm s fun t=>phM s u ψ B i t*phM s u φ B t j:=by
 have one:∀ (φ ψ:Nat->Rat) {l:Nat},l<s->sm s (fun i=>B l i*sm s fun t=>phM s u φ B i t*phM s u ψ B t j)=φ l*(ψ l*B l j):=fun φ ψ {l} a=>by
  rw [U4,C5 (g:=fun t=>φ l*(B l t*phM s u ψ B t j)) fun t c=>by rw [b.mult φ a c,Rat.mul_assoc],J7,b.mult ψ a hj]
 exact b.eq (x:=fun i=>sm s fun t=>phM s u φ B i t*phM s u ψ B t j) (y:=fun i=>sm s fun t=>phM s u ψ B i t*phM s u φ B t j) (fun l a=>by
  rw [one φ ψ a,one ψ φ a];grind) i hi
def Blk.van(b:Blk s u B)(φ ζ:Nat->Rat){k:Nat}(hk:k<s):sm s (fun l=>u l*(φ l*B l k*ζ l))+sm s (fun j=> - phM s u φ B j k*sm s fun l=>u l*(B l j*ζ l))=0:=by
 have e:sm s (fun j=> - phM s u φ B j k*sm s fun l=>u l*(B l j*ζ l))=sm s fun l=> - (u l*ζ l)*(sm s fun j=>B l j*phM s u φ B j k):=by
  rw [C5 (g:=fun j=>sm s fun l=> - (u l*ζ l)*(B l j*phM s u φ B j k)) fun j _=>by rw [<- J7];exact C5 fun l _=>gz0]
  rw [T8]
  exact C5 fun l _=>J7 _ _ _
 rw [e,C5 (f:=fun l=> - (u l*ζ l)*(sm s fun j=>B l j*phM s u φ B j k)) (g:=fun l=> - (u l*(φ l*B l k*ζ l))) fun l a=>by rw [b.mult φ a hk];grind,Jd]
 grind
def Pts.blkR{v:Nat}(p:Pts s v u y)(hd:d<=3)(hD:D<=6)(hdD:2*d<=D)(hr:rkM (ptV s u y v D) v d=s):Blk s u (bB (ptV s u y v D) y v d):=by
 have h:=Vk (V:=ptV s u y v D) p.v1 p.v2 hd hD hdD
 rw [hr,p.sq hd hD hdD] at h
 exact ⟨p.pos,h⟩
def Pts.fmR{v:Nat}(p:Pts s v u y)(hd:d<=2)(hD:D<=6)(hdD:2*d+2<=D)(hr:rkM (ptV s u y v D) v d=s)(F:Nat->Rat):fmM (ptV s u y v D) F v d=phM s u (phi F y v) (bB (ptV s u y v D) y v d):=by
 unfold fmM phM ivM
 rw [hr,p.sq o hD o,show A02 (ptV s u y v D) F v d=fun i k=>sm s fun l=>u l*phi F y v l*(bB (ptV s u y v D) y v d l i*bB (ptV s u y v D) y v d l k) from funext fun i=>funext fun k=>p.val hd hD hdD F i k]
def B6m(y:Nat->Nat->Rat){v j:Nat}(hj:j<v):phi (uni j) y v=fun l=>y l j:=funext fun l=>by
 show sm v (fun k=>uni j k*y l k)=_
 rw [V4 hj fun k _ a=>by show (if k=j then (1:Rat) else 0)*_=0;rw [iN a,Rat.zero_mul]]
 show (if j=j then (1:Rat) else 0)*_=_
 rw [iP rfl,aN]
end
def xE:List Int:=(aD 2 (0:Int)).set 0 1
def C30:∀ i:Fin 3,(mon 2 1 i).length=2/\(mon 2 1 i).all (fun z=>decide (0<=z))=true/\(mon 2 1 i).sum<=1:=by decide +kernel
def B1l{i:Nat}(hi:i<nM 2 1):(mon 2 1 i).length=2/\Rng 1 (mon 2 1 i):=by
 have b:nM 2 1=3:=by decide +kernel
 have:=C30 ⟨i,o⟩
 exact ⟨this.1,fun z a=>by have:=List.all_eq_true.1 this.2.1 z a;simpa using this,this.2.2⟩
def Rd:xE.length=2/\Rng 1 xE:=by
 refine ⟨rfl,fun z a=>?_,dc⟩
 have:z=1\/z=0:=by simpa [xE] using a
 omega
def B86{s:Nat}{u:Nat->Rat}{y:Nat->Nat->Rat}(p:Pts s 2 u y)(hr:rkM (ptV s u y 2 4) 2 1=s){k:Nat}(hk:k<s){z:List Int}(hz:z.length=2)(rz:Rng 1 z)(V:List Int->Rat)(hV:∀ e,V e=1*ptV s u y 2 4 (Ut (opL (fun x y=>x+y) e z)).toNat):
 V (opL (fun x y=>x+y) xE (bdr (ptV s u y 2 4) 2 1 k))+sm s (fun j=> - fmM (ptV s u y 2 4) (uni 0) 2 1 j k*V (bdr (ptV s u y 2 4) 2 1 j))=0:=by
 have lt:∀ t,t<s->(pvL (ptV s u y 2 4) 2 1).getD t 0<nM 2 1:=fun t B=>Ek (ptV s u y 2 4) 2 1 (by rw [hr];exact B)
 have b:=p.blkR (d:=1) (D:=4) o o o hr
 have C:∀ t,t<s->(bdr (ptV s u y 2 4) 2 1 t).length=2/\Rng 1 (bdr (ptV s u y 2 4) 2 1 t):=fun t B=>B1l (lt t B)
 have A:∀ (l:Nat) {a c:List Int},a.length=2->c.length=2->(∀ q∈a,0<=q)->(∀ q∈c,0<=q)->mvl (y l) (opL (fun x y=>x+y) a c) 0=mvl (y l) a 0*mvl (y l) c 0:=fun l {a c} ha hc pa pc=>B0b (y l) (by rw [ha,hc]) (.inr ha) pa pc
 have F:∀ j,j<s->V (bdr (ptV s u y 2 4) 2 1 j)=sm s fun l=>u l*(bB (ptV s u y 2 4) y 2 1 l j*mvl (y l) z 0):=fun j w=>by
  obtain ⟨i,m⟩:=C j w
  have n:=Xw (by rw [i,hz]) m rz
  rw [hV,aN,A8i (by rw [N3];exact i) ⟨n.1,by have:=n.2;omega⟩]
  exact C5 fun l _=>by
   rw [A l i hz m.1 rz.1];rfl
 have G:V (opL (fun x y=>x+y) xE (bdr (ptV s u y 2 4) 2 1 k))=sm s fun l=>u l*(y l 0*bB (ptV s u y 2 4) y 2 1 l k*mvl (y l) z 0):=by
  obtain ⟨i,m⟩:=C k hk
  have r:(opL (fun x y=>x+y) xE (bdr (ptV s u y 2 4) 2 1 k)).length=2:=by rw [N3];exact Rd.1
  have E:Rng (1+1) (opL (fun x y=>x+y) xE (bdr (ptV s u y 2 4) 2 1 k)):=Xw (by rw [Rd.1];exact i.symm) Rd.2 m
  have n:=Xw (by rw [r,hz]) E rz
  rw [hV,aN,A8i (by rw [N3];exact r) ⟨n.1,by have:=n.2;omega⟩]
  exact C5 fun l _=>by
   rw [A l r hz E.1 rz.1,A l Rd.1 i Rd.2.1 m.1]
   have:mvl (y l) xE 0=y l 0:=by
    show mvl (y l) [1,0] 0=_
    rw [B0d]
    simp
   rw [this];rfl
 rw [G,C5 (f:=fun j=> - fmM (ptV s u y 2 4) (uni 0) 2 1 j k*V (bdr (ptV s u y 2 4) 2 1 j)) (g:=fun j=> - fmM (ptV s u y 2 4) (uni 0) 2 1 j k*sm s fun l=>u l*(bB (ptV s u y 2 4) y 2 1 l j*mvl (y l) z 0)) fun j w=>by rw [F j w]]
 rw [p.fmR (d:=1) (D:=4) o o o hr,B6m y (show 0<2 from o)]
 exact b.van (fun l=>y l 0) (fun l=>mvl (y l) z 0) hk
structure GrF (v d D:Nat) (e:List Int) (T:List Int->List Int->Nat):Prop where
 len:e.length=v
 one:∀ i,i<nM v d->(Bc (mon v d i) e&&J6 (opL (fun x y=>x+y) (mon v d i) e))=true
 two:∀ i k,i<nM v d->k<nM v d->(Bc (opL (fun x y=>x+y) (mon v d i) e) (mon v d k)&&J6 (opL (fun x y=>x+y) (opL (fun x y=>x+y) (mon v d i) e) (mon v d k)))=true
 eq:∀ i k,i<nM v d->k<nM v d->opL (fun x y=>x+y) (opL (fun x y=>x+y) (mon v d i) e) (mon v d k)=mon v D (T (mon v d i) (mon v d k))
 lt:∀ i k,i<nM v d->k<nM v d->T (mon v d i) (mon v d k)<(mo v D).length
def SlI.un{h:aL}{A:Option aU}{xs ys:List Int}(s:SlI .i64 h A xs)(e:xs=ys):SlI .i64 h A ys:=e▸s
section
variable {h h':aL} {K:VP} {A B BA MA:Option aU} {c cc bc mc m v d D:Nat} {V:Nat->Rat}
end
section
variable {h h':aL} {K:VP} {A B:Option aU} {m n ac bc:Nat}
def Rn{r q:Int}{ls:Nat->List UInt8}(x:aT SSr h A n ls)(y:aT SSr h B n ls)(hn:n<=1000000000)(hK:K (.bool true) h):aM prog 27 #[Dx r q A n ac,Dx r q B n bc] h K:=by
 refine (fnk func27 (own:=[2,3])) ?_
 exact D5 (fun _=>D5 (fun _=>Lk x y hn (fun _ _=>⟨_,rfl,hK⟩) (fun no=>absurd ⟨rfl,fun _ _=>rfl⟩ no)) (fun e=>absurd rfl e)) (fun e=>absurd rfl e)
def Vf{w cap:Nat}{M:Nat->Nat->Rat}(rs:RowsV h A n w M)(hn:n<=10000)(hw1:1<=w)(hw:w<=10000)(hn1:1<=n)(hs:∀ i j,i<n->j<w->Sz m (M i j))(hm:m<=400000000)
 (hK:∀ A' c' h',h.le h'->aT SSr h' A' (n*w) (K8 M w)->K (Dx n w A' (n*w) c') h'):aM prog 30 #[.slice A n cap] h K:=by
 refine (fnk func30 (own:=[2])) ?_
 exact A7n rs hn hw1 hw hn1 hs hm fun A' c' h' l _ r=>⟨_,_,_,_,_,rfl,hK A' c' h' l r⟩
end
def TapeS(g o:aL)(b:Nat)(xs:List Int):Prop:=∃ (A:Option aU) (c k:Nat) (e:TypeId),o b=some (.cells #[.slice A xs.length c,I (k:Int)] e)/\k<=xs.length/\xs.length<=400/\SlI .i64 g A xs
def TapeS.keep{g o g' o':aL}{b:Nat}{xs:List Int}(t:TapeS g o b xs)(l:g.le g')(h:∀ x,o b=some x->o' b=some x):TapeS g' o' b xs:=by
 obtain ⟨A,c,k,e,a,d,i,f⟩:=t
 exact ⟨A,c,k,e,h _ a,d,i,f.mono l⟩
def B7k{P:Program}{t:TypeId}{v:Value}{K:VP}{h:aL}(x:∀ b,h b=none->K (.pointer (some ⟨b,0,none⟩)) (h.put b (.cells v.cells t))):wpH P (Instr.box t v) K h:=by
 exact x
section
variable {h g o:aL} {K:VP} {A:Option aU} {xs:List Int} {b:Nat}
def A9q{ac:Nat}(s:SlI .i64 h A xs)(hc:xs.length<=ac)(hK:∀ b h' o',Sep h' h o'->TapeS h o' b (xs.take 400)->(∀ k,k≠b->o' k=none)->K (.pointer (some ⟨b,0,none⟩)) h'):aM prog 7 #[.slice A xs.length ac] h K:=by
 refine (fnk func7) ?_
 have e:(if (400:Int)<((xs.length:Nat):Int) then (400:Int) else ((xs.length:Nat):Int))=(((xs.take 400).length:Nat):Int):=by
  grind
 have a:(xs.take 400).length<=xs.length:=oo
 rw [e]
 refine ⟨⟨oo,oo⟩,B7k ?_⟩
 intro b f
 refine ⟨_,rfl,hK b _ _ (V8 f) ⟨T9 A ac 0 1,ac-0,0,_,C3 _ _ _,oo,oo,?_⟩ fun k d=>B9 _ _ d⟩
 have:=s.cut (c:=ac) (l:=0) (m:=(xs.take 400).length) oo a hc
 grind
def In{n:Nat}(s:Sep h g o)(t:TapeS g o b xs)(hn:0<n/\n<=1000000)(hK:∀ (r:Nat) h' o',r<n->Sep h' g o'->TapeS g o' b xs->(∀ k,k≠b->o' k=o k)->K (I (r:Int)) h'):aM prog 8 #[.pointer (some ⟨b,0,none⟩),I (n:Int)] h K:=by
 have t0:=t
 obtain ⟨A,c,k,e,l,G,z,sl⟩:=t
 refine (fnk func8) ?_
 have a:(h.without b).put b (.cells #[.slice A xs.length c,I (k:Int)] e)=h:=J5 (s.own b _ l)
 have c0:h.cell? (aI ⟨b,0,none⟩ 0)=some (.slice A xs.length c):=by rw [<- a,D4,D7];rfl
 have c1:h.cell? (aI ⟨b,0,none⟩ 1)=some (I (k:Int)):=by rw [<- a,D4,D7];rfl
 refine ⟨_,rfl,_,c1,_,rfl,_,_,_,c0,C0 (fun C=>?_) (fun C=>?_)⟩
 ·grind
 ·refine ⟨_,rfl,_,_,_,c0,_,rfl,_,c1,?_⟩
  have m:=sl.mono s.le
  refine m.load rfl oo oo ?_
  rw [aK]
  refine ⟨_,rfl,_,c1,_,rfl,?_⟩
  have q:C4 ((k:Int)+1)=((k+1:Nat):Int):=by rw [C1 oo oo];omega
  rw [q]
  have B:∀ {K2:Unit->aL->Prop},(∀ h' o',Sep h' g o'->TapeS g o' b xs->(∀ k,k≠b->o' k=o k)->K2 () h')->wpH prog (Instr.storeAt 3 (.pointer (some (aI ⟨b,0,none⟩ 1))) (I ((k+1:Nat):Int))) K2 h:=by
   intro K2 f
   have x:=Lc (P:=prog) (t:=3) (k:=.i64) (n:=((k+1:Nat):Int)) (i:=1) (g:=h.without b) (b:=b) (c:=#[.slice A xs.length c,I (k:Int)]) (e:=e) (K:=K2) Cd gz0 (by
    rw [show (h.without b).put b (.cells ((#[.slice A xs.length c,I (k:Int)]:Array Value).setIfInBounds (1:Int).toNat (.int .i64 ((k+1:Nat):Int))) e)=h.put b (.cells #[.slice A xs.length c,I ((k+1:Nat):Int)] e) by
     have u:∀ y,(h.without b).put b y=h.put b y:=fun y=>by
      conv=>rhs;rw [<- a]
      rw [Dg]
     grind]
    exact f _ _ (s.upd l _) ⟨A,c,k+1,e,C3 _ _ _,oo,z,sl⟩ fun j D=>B9 _ _ D)
   grind
  refine B ?_
  intro h' o' H F L
  generalize xs.getD k 0=v
  have d:¬ ((n:Int)=0):=oo
  refine C0 (fun e=>absurd e d) (fun _=>C0 (fun e=>absurd e d) (fun _=>?_))
  have E: -(n:Int)<Int.tmod v n/\Int.tmod v n<n:=by
   have O:=Nat.mod_lt v.natAbs hn.1
   have tt:=A4y v.natAbs n
   grind
  generalize Int.tmod v n=w at *
  rw [C1 oo oo,Int.tmod_eq_emod_of_nonneg oo]
  have p:=Int.emod_nonneg (w+n) d
  have N:=Int.emod_lt_of_pos (w+n) (show (0:Int)<n from oo)
  obtain ⟨r,M⟩:=Int.eq_ofNat_of_zero_le p
  grind
end
section
variable {h g o:aL} {K:VP} {xs:List Int} {b:Nat}
def OffB(b:Nat)(o o':aL):Prop:=∀ k,k≠b->o' k=o k
def Sep.giveB{ys:List QV}{bb n:Nat}{f:Nat->Rat}(s:Sep h g o)(rb:RowB o bb ys)(hy:ys.length=n)(rr:Row NQr g ys n f):∃ g2,g.le g2/\Sep h g2 (o.without bb)/\aT NQr g2 (some ⟨bb,0,none⟩) n f:=by
 have a:(o.without bb).le o:=fun k x e=>by
  by_cases j:k=bb
  ·have:Heap.without o k k=none:=N6 _ _
   grind
  ·unfold Heap.without at e;grind
 obtain ⟨g2,c,b⟩:=s.give a
 obtain ⟨e,ex,i⟩:=rb
 have d:g2 bb=some (.cells (ys.flatMap enc++ex).toArray e):=by
  rw [<- b.rest bb (N6 _ _)]
  exact s.own _ _ i
 refine ⟨g2,c,b,ys,?_,hy,rr.mono Q6 c⟩
 exact RowB.slF (o:=g2) ⟨e,ex,d⟩ (B7 _)
def C0k{x y:Int}(hx:0<x)(hy:0<y):0<bC x y:=by
 rw [aO,Rat.div_def]
 exact Rat.mul_pos (Rat.intCast_pos.2 hx) (Rat.inv_pos.2 (Rat.intCast_pos.2 hy))
end
def Whl(x:Rat):Prop:=∃ z:Int,x=z/\z.natAbs<=2
def W12(x:Rat):Prop:=∃ z:Int,x*12=z/\0<z/\z<=108
def Whl.sz{x:Rat}(h:Whl x):Sz 2 x:=by
 obtain ⟨z,rfl,a⟩:=h
 exact Sz.int (by unfold ZB;omega) o
def W12.sz{x:Rat}(h:W12 x):Sz 8 x/\0<x:=by
 obtain ⟨z,b,a,c⟩:=h
 have e:x=bC z 12:=by rw [aO,<- b];grind
 rw [e]
 exact ⟨T3 dc (by unfold ZB;omega) (by unfold ZB;decide),C0k a dc⟩
def B84{a b:Nat}(ha:a<9)(hb:b<4):W12 (bC (1+(a:Int)) (1+(b:Int))):=by
 rw [W12,aO]
 rcases (show b=0\/b=1\/b=2\/b=3 from o) with rfl|rfl|rfl|rfl
 ·exact ⟨12*(1+a),by push_cast;grind,o,o⟩
 ·exact ⟨6*(1+a),by push_cast;grind,o,o⟩
 ·exact ⟨4*(1+a),by push_cast;grind,o,o⟩
 ·exact ⟨3*(1+a),by push_cast;grind,o,o⟩
section
variable {h g o:aL} {K:VP} {xs:List Int} {b:Nat}
def A3p{k:Nat}(hk:k<=2)(s:Sep h g o)(t:TapeS g o b xs)(hK:∀ w q h' g' o',g.le g'->Sep h' g' o'->TapeS g' o' b xs->OffB b o o'->NQ g' w q->Whl q->K w.v h'):aM prog 52 #[.pointer (some ⟨b,0,none⟩),I (k:Int)] h K:=by
 refine (fnk func52 (own:=[4]) (wr:=[8])) ?_
 rw [show C4 (C4 (2*(k:Int))+1)=((2*k+1:Nat):Int) by rw [C1 (n:=2*(k:Int)) oo oo,C1]<;>omega]
 refine In (n:=2*k+1) s t oo ?_
 intro d r u l j t1 a
 refine ⟨_,rfl,?_⟩
 rw [show C4 ((d:Int)-(k:Int))=(d:Int)-k from C1 oo oo]
 refine j.call (Gh oo ?_)
 intro w m c i p f
 exact ⟨_,_,_,_,_,_,_,_,rfl,hK w _ _ _ _ c f (t1.keep c fun _ e=>e) a i ⟨_,rfl,oo⟩⟩
def A3s(s:Sep h g o)(t:TapeS g o b xs)(hK:∀ w q h' g' o',g.le g'->Sep h' g' o'->TapeS g' o' b xs->OffB b o o'->NQ g' w q->W12 q->K w.v h'):aM prog 53 #[.pointer (some ⟨b,0,none⟩)] h K:=by
 refine (fnk func53 (own:=[2]) (wr:=[8])) ?_
 refine In (n:=9) s t oo ?_
 intro a T W l L t1 j
 refine ⟨_,rfl,?_⟩
 rw [show C4 (1+(a:Int))=1+(a:Int) from C1 oo oo]
 refine L.call (Cz oo ?_)
 intro sg A n c R y D Q F
 refine ⟨_,_,_,_,rfl,In (n:=4) F (t1.keep y fun _ e=>e) oo ?_⟩
 intro p h3 o3 d M z f
 refine ⟨_,rfl,?_⟩
 rw [show C4 (1+(p:Int))=1+(p:Int) from C1 oo oo]
 refine M.call (Cz oo ?_)
 intro N A2 n2 c2 X i H S C
 have G:ZB 8 (1+(a:Int)):=by unfold ZB;omega
 have E:ZB 8 (1+(p:Int)):=by unfold ZB;omega
 refine ⟨_,_,_,_,rfl,C.call (Hq (m:=8) (D.mono i) H oo G E oo ?_)⟩
 intro w g5 r B V O
 exact ⟨_,_,_,_,_,_,_,_,rfl,hK w _ _ _ _ (B0 y (B0 i r)) O (z.keep (B0 i r) fun _ e=>e) (fun k u=>(f k u).trans (j k u)) B (B84 l d)⟩
def OffB.own{α:Type}[E:Enc α]{o o':aL}{e:TypeId}{A:Option aU}{c:Nat}{ys:List α}(x:OffB b o o')(w:OwnSl o e A c ys)(hA:A≠some ⟨b,0,none⟩):OwnSl o' e A c ys:=w.keep fun j u q a=>by rw [x j (fun z=>hA (by rw [q,z]))];exact a
def OwnSl.blk{α:Type}[E:Enc α]{o:aL}{e:TypeId}{A:Option aU}{c j:Nat}{ys:List α}(w:OwnSl o e A c ys)(hA:A=some ⟨j,0,none⟩):∃ x,o j=some x:=by
 rcases w.2 with g|⟨b,a,d,f,_⟩
 ·grind
 grind
structure PtS (v:Nat) (xs:List Int) (b:Nat) (g0 hp:aL) (k:Nat) (A B:Option aU) (c d:Nat) (g o:aL) (ps:List HV) (ws:List QV) (X:Nat->Nat->Rat) (w:Nat->Rat):Prop where
 le:g0.le g
 s:Sep hp g o
 t:TapeS g o b xs
 p:OwnSl o 27 A c ps
 q:OwnSl o 37 B d ws
 pl:ps.length=k
 ql:ws.length=k
 pr:Row (RWr v) g ps k X
 qr:Row NQr g ws k w
 hX:∀ l j,l<k->j<v->Whl (X l j)
 hw:∀ l,l<k->W12 (w l)
 Ab:A≠some ⟨b,0,none⟩
 Bb:B≠some ⟨b,0,none⟩
 AB:∀ e,A=some ⟨e,0,none⟩->B≠some ⟨e,0,none⟩
def A3u{v:Nat}(v1:1<=v)(v2:v<=2)(s:Sep h g o)(t:TapeS g o b xs)
 (hK:∀ n A c B d X w h',1<=n->n<=3->g.le h'->aT (RWr v) h' A n X->aT NQr h' B n w->(∀ l j,l<n->j<v->Whl (X l j))->(∀ l,l<n->W12 (w l))->K (.tuple #[.slice A n c,.slice B n d]) h'):aM prog 9 #[.pointer (some ⟨b,0,none⟩),I (v:Int)] h K:=by
 refine (fnk func9 [(4,[6,7,8],[],[.slice none 0 0,.slice none 0 0,I 0]),(8,[9,10],[],[.slice none 0 0,I 0])] (wr:=[8,52,53])) ?_
 refine In (n:=3) s t oo ?_
 intro r h1 o1 hr s1 t1 aw
 refine ⟨_,rfl,?_⟩
 rw [show C4 (1+(r:Int))=((r+1-0:Nat):Int) by rw [C1]<;>omega]
 refine ⟨fun L hp=>∃ (k:Nat) (A B:Option aU) (c d:Nat) (g' o':aL) (ps:List HV) (ws:List QV) (X:Nat->Nat->Rat) (w:Nat->Rat),k<=r+1/\L=[.slice A k c,.slice B k d,I ((r+1-k:Nat):Int)]/\PtS v xs b g hp k A B c d g' o' ps ws X w,fun L _=>(iAt L 2).toNat,
  ⟨0,none,none,0,0,g,o1,[],[],fun _ _=>0,fun _=>0,oo,rfl,⟨B7 _,s1,t1,OwnSl.nil,OwnSl.nil,rfl,rfl,Row.nil,Row.nil,fun _ _ q=>oo,fun _ q=>oo,by simp,by simp,fun _ q=>by cases q⟩⟩,?_⟩
 rintro xA xn xc wA M wc z hp ⟨k,A,B,c,d,g2,o2,ps,ws,X,w,hk,eL,T⟩
 simp only [aH,aE,aG,true_and,and_true] at eL
 obtain ⟨⟨rfl,rfl,rfl⟩,⟨rfl,rfl,rfl⟩,rfl⟩:=eL
 refine C0 (fun av=>?_) (fun ax=>?_)
 ·refine ⟨fun L hq=>∃ (m:Nat) (g' o':aL) (P:Option aU) (pc:Nat) (V:List QV) (f:Nat->Rat),m<=v/\L=[.slice P m pc,I (m:Int)]/\g2.le g'/\Sep hq g' o'/\TapeS g' o' b xs/\OwnSl o' 37 P pc V/\V.length=m/\Row NQr g' V m f/\(∀ i,i<m->Whl (f i))/\P≠some ⟨b,0,none⟩/\∀ j x,j≠b->o2 j=some x->o' j=some x/\P≠some ⟨j,0,none⟩,fun L _=>v-(iAt L 1).toNat,
   ⟨0,g2,o2,none,0,[],fun _=>0,oo,rfl,B7 _,T.s,T.t,OwnSl.nil,rfl,Row.nil,fun i hi=>oo,by simp,fun j x _ e=>⟨e,by simp⟩⟩,?_⟩
  rintro lA C lc z2 hq ⟨m,g3,o3,P,pc,V,f,hm,W,l3,s3,t3,Q,D,rr,hs,H,u⟩
  simp only [aH,aE,aG,true_and,and_true] at W
  obtain ⟨⟨rfl,rfl,rfl⟩,rfl⟩:=W
  refine C0 (fun ar=>?_) (fun aq=>?_)
  ·refine A3p (k:=2) oo s3 t3 ?_
   intro w4 q h4 g4 o4 l4 s4 t4 ag iw sq
   refine ⟨_,_,_,_,_,_,_,_,rfl,?_⟩
   refine K6 (ty:=27) Un s4 (ag.own Q H) D.symm (y:=w4) rfl dc oo oo ?_
   intro A5 c5 h5 g5 o5 O s5 aj ac
   rw [D,wiS C oo]
   obtain ⟨_,_,_,_,ao,_⟩:=id t4
   refine ⟨⟨C+1,g5,o5,A5,c5,_,fun i=>if i=C then q else f i,oo,rfl,B0 l3 (B0 l4 O),s5,t4.keep O fun x e=>(ac b x e H).1,aj,gz0,?_,fun i hi=>gz0,(ac b _ ao H).2,fun j x N e=>?_⟩,?_⟩
   ·have rA:Row NQr g5 V V.length (fun i=>if i=C then q else f i):=by
     rw [D]
     exact (rr.mono Q6 (B0 l4 O)).congr fun i hi=>(iN oo).symm
    have rB:=rA.push (w:=w4) (by rw [D,iP rfl];exact Q6 _ _ _ _ O iw)
    grind
   ·obtain ⟨e1,e2⟩:=u j x N e
    have e3:o4 j=some x:=by rw [ag j N];exact e1
    grind
   ·show v-((C+1:Nat):Int).toNat<v-(C:Int).toNat
    omega
  ·obtain rfl:C=v:=oo
   obtain ⟨R,rfl,rb⟩:=Q.rowB gz0
   have au:R≠b:=fun e=>H (by rw [e])
   obtain ⟨g5,O,s5,rv⟩:=s3.giveB rb D rr
   have kp:∀ j x,j≠b->o2 j=some x->(o3.without R) j=some x:=fun j x N e=>by
    obtain ⟨e1,e2⟩:=u j x N e
    unfold Heap.without
    grind
   have t5:TapeS g5 (o3.without R) b xs:=t3.keep O fun x e=>by unfold Heap.without;grind
   have ap:=T.p.keep (o':=o3.without R) fun e x F a=>kp e x (fun q=>T.Ab (by rw [F,q])) a
   have ah:=T.q.keep (o':=o3.without R) fun e x F a=>kp e x (fun q=>T.Bb (by rw [F,q])) a
   refine K6 (ty:=26) B8e s5 ap T.pl.symm (y:=(⟨some ⟨R,0,none⟩,C,lc⟩:HV)) rfl dc (by have:=T.pl;omega) (by have:=T.pl;omega) ?_
   intro A6 c6 h6 g6 o6 l6 s6 ai G
   obtain ⟨_,_,_,_,am,_⟩:=id t5
   have t6:TapeS g6 o6 b xs:=t5.keep l6 fun x e=>(G b x e T.Ab).1
   have ad:=ah.keep (o':=o6) fun e x hB a=>(G e x a fun F=>T.AB e F hB).1
   refine A3s s6 t6 ?_
   intro w7 q7 h7 g7 o7 l7 s7 t7 ae i7 ak
   refine ⟨_,_,_,_,_,_,_,_,rfl,?_⟩
   have A6b:=(G b _ am T.Ab).2
   have af:=ae.own ai A6b
   obtain ⟨_,_,_,_,an,_⟩:=id t7
   refine K6 (ty:=27) Un s7 (ae.own ad T.Bb) T.ql.symm (y:=w7) rfl dc (by have:=T.ql;omega) (by have:=T.ql;omega) ?_
   intro B8 c8 h8 g8 o8 l8 s8 al E
   rw [T.pl,T.ql,show C4 (((r+1-M:Nat):Int)-1)=((r+1-(M+1):Nat):Int) by rw [C1]<;>omega]
   have aa:=B0 l6 (B0 l7 l8)
   have S:=B0 l3 (B0 O aa)
   have BA:∀ e,wA=some ⟨e,0,none⟩->A6≠some ⟨e,0,none⟩:=fun e q=>by
    obtain ⟨x,a⟩:=ah.blk q
    exact (G e x a fun F=>T.AB e F q).2
   refine ⟨⟨M+1,A6,B8,c6,c8,g8,o8,_,_,fun i=>if i=M then f else X i,fun i=>if i=M then q7 else w i,oo,rfl,B0 T.le S,s8,t7.keep l8 fun x e=>(E b x e T.Bb).1,af.keep fun e x F a=>(E e x a fun q=>BA e q F).1,al,by have:=T.pl;simp;omega,by have:=T.ql;simp;omega,?_,?_,fun l j hl N=>?_,fun l hl=>?_,A6b,(E b _ an T.Bb).2,fun e q=>?_⟩,by simp [iAt];omega⟩
   ·have rA:Row (RWr C) g8 ps ps.length (fun i=>if i=M then f else X i):=by
     rw [T.pl]
     exact (T.pr.mono (A77 _) S).congr fun i hi=>(iN oo).symm
    have rB:=rA.push (w:=(⟨some ⟨R,0,none⟩,C,lc⟩:HV)) (by rw [T.pl,iP rfl];exact ⟨rfl,by have:=Q.1;show C<=lc;omega,rv.mono Q6 aa⟩)
    have e:=T.pl
    grind
   ·have rA:Row NQr g8 ws ws.length (fun i=>if i=M then q7 else w i):=by
     rw [T.ql]
     exact (T.qr.mono Q6 S).congr fun i hi=>(iN oo).symm
    have rB:=rA.push (w:=w7) (by rw [T.ql,iP rfl];exact Q6 _ _ _ _ l8 i7)
    have e:=T.ql
    grind
   ·split
    ·exact hs j N
    ·exact T.hX l j oo N
   ·split
    ·exact ak
    ·exact T.hw l oo
   ·obtain ⟨x,a⟩:=af.blk q
    exact (E e x a fun q2=>BA e q2 q).2
 ·obtain rfl:M=r+1:=oo
  exact hK _ _ _ _ _ X w hp oo oo (B0 T.le T.s.le) ⟨ps,T.p.slF T.s.ole,T.pl,T.pr.mono (A77 v) T.s.le⟩ ⟨ws,T.q.slF T.s.ole,T.ql,T.qr.mono Q6 T.s.le⟩ T.hX T.hw
end
section
variable {α β α2 β2:Type} [E:Enc α] [E2:Enc α2] {R:aL->α->β->Prop} {e e2:TypeId} {h0 hp:aL} {A A2:Option aU} {c n c2 n2:Nat} {f:Nat->β} {R2:aL->α2->β2->Prop} {f2:Nat->β2} {P:Program}
def Lst2.weak{h1:aL}(w:h1.le h0)(l:Lst2 R e R2 e2 h0 hp A c n f A2 c2 n2 f2):Lst2 R e R2 e2 h1 hp A c n f A2 c2 n2 f2:=by
 obtain ⟨g,o,a,d,b,r⟩:=l
 exact ⟨g,o,a,d,B0 w b,r⟩
def Lst2.congr{f':Nat->β}(l:Lst2 R e R2 e2 h0 hp A c n f A2 c2 n2 f2)(x:∀ i,i<n->f i=f' i):Lst2 R e R2 e2 h0 hp A c n f' A2 c2 n2 f2:=by
 obtain ⟨g,o,j,d,q,s,w,m,k,p,a,r,b⟩:=l
 exact ⟨g,o,j,d,q,s,w,m,k,p,a,r.congr x,b⟩
def Lst2.litR{α3 β3:Type}[E3:Enc α3]{R3:aL->α3->β3->Prop}(m:Mon R)(m2:Mon R2)(m3:Mon R3){t e3:TypeId}{z:Value}{bytes:Nat}(st:SliceT P t e3 z E3.default.size bytes)(l:Lst2 R e R2 e2 h0 hp A c n f A2 c2 n2 f2){v:Value}{y:α3}(hv:v.cells=(enc y).toArray)(hsz:E3.default.size<=1000){q:β3}(hR:R3 h0 y q){K:VP}
 (x:∀ b g h',h0.le g->hp.le h'->Lst2 R e R2 e2 g h' A c n f A2 c2 n2 f2->aT R3 g (some ⟨b,0,none⟩) 1 (fun _=>q)->K (.slice (some ⟨b,0,none⟩) 1 1) h'):wpH P (Instr.buildSlice t 1 #[(0,v)]) K hp:=by
 obtain ⟨g,o,E,C,p,s,w,F,G,L,k,r,B⟩:=l
 have D:(enc y).length=E3.default.size:=E3.default.len y
 refine Y3 st (vs:=[v]) (fun u d=>by rw [List.mem_singleton.1 d,hv,List.size_toArray,D]) rfl (by simp;omega) rfl fun b j=>?_
 have H:g b=none:=s.free j
 have a:=Heap.le_put (.cells ([v].flatMap fun v=>v.cells.toList).toArray e3) H
 refine x b _ _ (B0 p a) (Heap.le_put _ j) ⟨_,o,E,C,B7 _,s.vis j _,w,F,G,L,k,r.mono m a,B.mono m2 a⟩ ⟨[y],SlV.new _ _ _ _ _ _ (fun i u d=>by simpa [hv] using d),rfl,fun i M=>⟨y,?_,m3 _ _ _ _ (B0 p a) hR⟩⟩
 obtain rfl:i=0:=oo
 rfl
def Lst2.base(pos:0<E.default.size)(l:Lst2 R e R2 e2 h0 hp A c n f A2 c2 n2 f2):∃ g,h0.le g/\Lst2 R e R2 e2 g hp A c n f A2 c2 n2 f2/\∀ i,i<n->∃ a w,A=some a/\R g w (f i)/\∀ j v,(enc w)[j]? = some v->hp.cell? (aI (aI a (i*E.default.size)) j)=some v:=by
 obtain ⟨g,o,b,p,C,s,w,t,u,B,d,r,m⟩:=l
 refine ⟨g,C,⟨g,o,b,p,B7 _,s,w,t,u,B,d,r,m⟩,fun i z=>?_⟩
 have k:i<b.length:=oo
 obtain ⟨a,q,y⟩:=(w.slF s.ole).at pos k
 exact ⟨a,b[i],q,r.get z k,y⟩
def Lst2.call(m:Mon R)(m2:Mon R2){F:FuncId}{args:Array Value}{K:VP}(l:Lst2 R e R2 e2 h0 hp A c n f A2 c2 n2 f2)(x:∀ g,h0.le g->aM P F args g (fun r g'=>g.le g'/\∀ h',hp.le h'->Lst2 R e R2 e2 g' h' A c n f A2 c2 n2 f2->K r h')):aM P F args hp K:=by
 obtain ⟨g,o,p,j,y,s,w,q,t,u,b,r,i⟩:=l
 refine s.call (FCall.mono (x g y) ?_)
 rintro v g' ⟨a,k⟩ h' d
 exact k h' (s.le_le d a) ⟨g',o,p,j,B7 _,d,w,q,t,u,b,r.mono m a,i.mono m2 a⟩
end
def B0c{x:Nat->Rat}: ∀ (e:List Int) (a:Nat),(∀ j,a<=j->j<a+e.length->Whl (x j))->∃ z:Int,mvl x e a=z/\z.natAbs<=2^(e.map Int.toNat).sum
 | [],_,_=>⟨1,rfl,by simp⟩
 | e::es,a,h=>by
  obtain ⟨z,hz,hl⟩:=B0c es (a+1) fun j f c=>h j o (by simp at c ⊢;omega)
  obtain ⟨y,d,b⟩:=h a o (by simp)
  refine ⟨y^e.toNat*z,?_,?_⟩
  ·unfold mvl
   rw [hz,d,Rat.intCast_mul,Rat.intCast_pow]
  ·rw [Int.natAbs_mul,Int.natAbs_pow,aV,aP,Nat.pow_add]
   exact aF (Nat.pow_le_pow_left b _) hl
def C2l{v n:Nat}{X:Nat->Nat->Rat}{w:Nat->Rat}{e:List Int}(he:e.length=v)(hd:(e.map Int.toNat).sum<=6)(hX:∀ l j,l<n->j<v->Whl (X l j))(hw:∀ l,l<n->W12 (w l)):∀ k,k<=n->∃ z:Int,ofS w X e k*12=z/\z.natAbs<=k*6912:=by
 intro k
 induction k with
 | zero=>exact fun _=>⟨0,by unfold ofS sm;simp,by simp⟩
 | succ k ih=>
  intro g
  obtain ⟨z,f,m⟩:=ih o
  obtain ⟨y,c,a⟩:=B0c (x:=X k) e 0 fun j _ i=>hX k j o o
  obtain ⟨u,d,r,q⟩:=hw k o
  have b:y.natAbs<=64:=bF a (Nat.pow_le_pow_right dc hd)
  refine ⟨z+u*y,?_,?_⟩
  ·have:ofS w X e (k+1)=ofS w X e k+w k*mvl (X k) e 0:=rfl
   rw [this,c,Rat.intCast_add,Rat.intCast_mul,<- f,<- d]
   grind
  ·have p:(u*y).natAbs<=108*64:=by rw [Int.natAbs_mul];exact aF o b
   omega
def C3p{x:Rat}{z:Int}(h:x*12=z)(hz:z.natAbs<=20736):Sz 15 x:=by
 have e:x=bC z 12:=by rw [aO,<- h];grind
 rw [e]
 exact T3 dc (by unfold ZB;omega) (by unfold ZB;decide)
def B1a:∀ i:Fin 28,i.val<(mo 2 4).length->((mon 2 4 i).map Int.toNat).sum<=6:=by decide +kernel
def mB:Nat->Nat
 | 0=>10
 | j+1=>5*(mB j+17201)
def B6x(j:Nat):mB (j+1)=5*(mB j+17201):=by rw [mB]
section
variable {h h':aL} {K:VP} {A:Option aU} {xs:List Int}
def C2t{s:Nat}{V:Nat->Rat}(hr:rkM V 2 1=s)(hs:s<=3)(sV:∀ i,i<(mo 2 4).length->Sz 15 (V i)){j:Nat}(hj:j<2){i k:Nat}(hi:i<s)(hk:k<s):Sz 17200 (fmM V (uni j) 2 1 i k):=by
 have lt:∀ t,t<s->(pvL V 2 1).getD t 0<nM 2 1:=fun t a=>Ek V 2 1 (by rw [hr];exact a)
 have g:∀ t,t<s->Sz 2862 (ivM V 2 1 i t):=fun t a=>by
  have inv:=Vk (V:=V) (v:=2) (d:=1) (D:=4) o o o o o
  unfold ivM
  rw [hr] at inv ⊢
  refine (A5s (m:=15) o (fun t a=>?_) inv i t hi a).mono ?_
  ·exact sV _ (Q9 (v:=2) (d:=1) (D:=4) o o o o o (lt _ (Nat.div_lt_of_lt_mul a)) (lt _ (Nat.mod_lt _ o))).lt
  ·have b:3^s<=27:=Nat.pow_le_pow_right (n:=3) dc hs
   have:(s+s)*15<=6*15:=aC _ o
   exact bF (aF b (show bnd (s+s) 15<=106 by unfold bnd;omega)) dc
 have e:∀ t,t<s->Sz 2862 (A02 V (uni j) 2 1 t k):=fun t a=>by
  refine (Jr (m:=15) (w:=2) (fun t _=>?_) (fun q c=>sV _ (mu3 (v:=2) (d:=1) (D:=4) o o o o o (lt t a) (lt k hk) c).lt) 2 (aJ _)).mono o
  unfold uni
  split
  ·exact Ls.mono o
  ·exact Sz.zero o
 unfold fmM C0b
 rw [hr]
 refine (Jr (m:=2862) (w:=s) (f:=fun t=>ivM V 2 1 i t) (f2:=fun t=>A02 V (uni j) 2 1 t k) g e s (aJ _)).mono ?_
 have:s*(2*2862+1)<=3*5725:=aC _ hs
 omega
def A0l{n m:Nat}{M:Nat->Nat->Rat}{B:Option aU}{c:Nat}(n1:1<=n)(hn:n<=6)(r:aT SSr h B (n*n) (K8 M n))(hs:∀ i j,i<n->j<n->Sz m (M i j))(hm:m<=1000000)
 (hK:∀ b h',h.le h'->RowsV h' (some ⟨b,0,none⟩) n n M->K (.tuple #[.slice (some ⟨b,0,none⟩) n n,.bool true]) h'):aM prog 33 #[Dx n n B (n*n) c] h K:=by
 have x:FM h B n n m M:=⟨n1,o,n1,o,r,hs⟩
 refine A7m r x.nn (x.len o) (fun p w mk b h' l a=>?_) (fun no=>absurd x.mx no)
 obtain ⟨rfl,rfl⟩:=Hm mk
 refine hK b h' l (a.congr fun i j _ d=>?_)
 rw [S5,Er M d]
def law_extractCommutes{ac:Nat}(gl:Gl h)(sl:SlI .i64 h A xs)(hc:xs.length<=ac):aM prog 5 #[.slice A xs.length ac] h (C3k h):=by
 refine (fnk func5 [(16,[108],[],[I 0]),(20,[123],[(18,2)],[I 0,I 0,.slice none 0 0]),(25,[147],[],[I 0])] (os:=[(18,[2,3,4,5,10,0,1,6,7,8,9,11]),(22,[0,1,2,3,4,5,6,7,10,11,12,13,8,9,14,15,16,17,18]),(27,[0,1,3,2,4,5,6,7,8])]) (own:=[6,9,11,18]) (wr:=[9])) ?_
 refine A9q sl hc fun b h1 o1 G t1 _=>⟨_,rfl,?_⟩
 refine A3u (v:=2) o o G t1 fun n XA xc WA wc X w h2 n1 n3 l2 rX rW hX hw=>⟨_,_,_,_,_,_,rfl,?_⟩
 refine A0n (D:=4) (RowsV.of rX) rW n1 n3 o o o (fun l j hl c=>(hX l j hl c).sz) (fun l hl=>(hw l hl).sz.1.mono o) fun A3 c3 h3 l3 r3=>⟨_,_,_,_,_,rfl,?_⟩
 obtain ⟨s,q,U,M⟩:=B3i (v:=2) (n:=n) (X:=X) (w:=w) (fun l hl=>⟨(hw l hl).sz.2,(hw l hl).sz.1⟩) n (aJ _)
 have fg:=(O3 (v:=2) (D:=4) o o o).len
 have da:∀ i,i<(mo 2 4).length->Sz 15 (ofS w X (mon 2 4 i) n):=fun i B=>by
  obtain ⟨z,e1,e2⟩:=C2l (v:=2) (n:=n) ((O3 o o (show 4<=6 from o)).val i B).2.1 (B1a ⟨i,o⟩ B) hX hw n (aJ _)
  exact C3p e1 (by have:n*6912<=3*6912:=aC _ n3;omega)
 obtain ⟨y,hy⟩:∃ y,y=fun k=>X (q k):=⟨_,rfl⟩
 have Mdif:=M.dif
 rw [<- hy] at Mdif
 have eV:∀ j,j<(mo 2 4).length->ofS w X (mon 2 4 j) n=ptV s U y 2 4 j:=fun j c=>by
  rw [hy];exact M.sum _ (Ka (v:=2) (D:=4) o o o c).1
 have sV:∀ j,j<(mo 2 4).length->Sz 15 (ptV s U y 2 4 j):=fun j c=>by rw [<- eV j c];exact da j c
 have eo:=M.le
 have S:Pts s 2 U y:=⟨M.s1 n1,o,o,o,Mdif,M.pos⟩
 have f3:RnV h3 A3 2 4 15 (ptV s U y 2 4):=⟨o,o,o,r3.congr eV,sV,o,o⟩
 have df:=B0 l2 l3
 have ak:∀ {hx:aL} {K':VP},h.le hx->(∀ h',hx.le h'->K' (.bool true) h')->aM prog 22 #[] hx K':=fun l kk=>A1w (gl.mono l) kk
 refine A3i (D:=4) (d:=2) f3 o o o fun fb h4 l4 de=>⟨_,rfl,?_⟩
 have O:=B0 df l4
 refine Br.not (Br.of (fun ef=>?_) (fun _=>ak O fun h5 l5=>⟨_,rfl,rfl,B0 O l5⟩))
 have aw:rkM (ptV s U y 2 4) 2 2=rkM (ptV s U y 2 4) 2 1:=(de.1 ef).2
 have ep:=S.rk (d:=2) (D:=4) o o o o
 have p:rkM (ptV s U y 2 4) 2 1=s:=o
 have G:=S.s1
 have s3:s<=3:=o
 have ss:s*s<=3*3:=aF s3 s3
 have blk:=S.blkR (d:=1) (D:=4) o o o p
 have sM:=fun (j:Nat) (c:j<2)=> @C2t s (ptV s U y 2 4) p s3 sV j c
 have bR:∀ t,t<s->(bdr (ptV s U y 2 4) 2 1 t).length=2/\Rng 1 (bdr (ptV s U y 2 4) 2 1 t):=fun t a=>B1l (Ek (ptV s U y 2 4) 2 1 (by rw [p];exact a))
 have comm:∀ i j,i<s->j<s->sm s (fun t=>fmM (ptV s U y 2 4) (uni 0) 2 1 i t*fmM (ptV s U y 2 4) (uni 1) 2 1 t j)=sm s fun t=>fmM (ptV s U y 2 4) (uni 1) 2 1 i t*fmM (ptV s U y 2 4) (uni 0) 2 1 t j:=fun i j B c=>by
  rw [S.fmR (d:=1) (D:=4) o o o p,S.fmR (d:=1) (D:=4) o o o p]
  exact blk.comm _ _ B c
 have van:=fun {k:Nat} (hk:k<s) {z:List Int} (hz:z.length=2) (rz:Rng 1 z) V hV=>B86 S p hk hz rz V hV
 generalize hV:ptV s U y 2 4=V at *
 have wr:∀ {hx:aL} {K':VP},h3.le hx->(∀ WA wc h',hx.le h'->FnV h' WA 2 4 15 V->K' (.agg #[I ((2:Nat):Int),I ((4:Nat):Int),.slice WA (mo 2 4).length wc]) h')->aM prog 14 #[.agg #[I ((2:Nat):Int),I ((4:Nat):Int),.slice A3 (mo 2 4).length c3]] hx K':=fun l kk=>
  Pq (m:=15) (f3.row.mono Q6 l) o sV o fun WA wc h' l' r'=>kk WA wc h' l' ⟨o,o,o,r',sV,o⟩
 refine wr l4 fun WA wc h5 l5 a8=>⟨_,_,_,_,_,rfl,?_⟩
 have db:=B0 O l5
 refine Yu (D:=4) (d:=2) (gl.mono db) a8 o o o (fun e=>o) (fun _ _ no=>absurd ⟨aw,o⟩ no) ?_
 intro d' ed _ _ _ BA bc h6 l6 rb
 obtain rfl:d'=1:=o
 rw [p] at rb ⊢
 refine ⟨_,_,_,_,rfl,?_⟩
 have ag:=B0 l5 l6
 refine wr (B0 l4 ag) fun WA2 fh h7 l7 br=>⟨_,_,_,_,_,rfl,?_⟩
 have b7:=B0 O (B0 ag l7)
 refine As (D:=4) (d:=2) (var:=0) (gl.mono b7) br o o o (fun e=>o) (fun _ _ _ _ no=>absurd ⟨aw,o⟩ no) ?_
 intro d' j ed ej _ _ _ _ MA mc h8 l8 rM
 obtain rfl:d'=1:=o
 obtain rfl:j=0:=o
 rw [p] at rM ⊢
 refine ⟨_,_,_,_,_,_,rfl,?_⟩
 have bn:=B0 ag (B0 l7 l8)
 refine wr (B0 l4 bn) fun WA3 en h9 l9 b2=>⟨_,_,_,_,_,rfl,?_⟩
 have cg:=B0 O (B0 bn l9)
 refine As (D:=4) (d:=2) (var:=1) (gl.mono cg) b2 o o o (fun e=>o) (fun _ _ _ _ no=>absurd ⟨aw,o⟩ no) ?_
 intro d' j ed ej _ _ _ _ NA nc er b6 rN
 obtain rfl:d'=1:=o
 obtain rfl:j=1:=o
 rw [p] at rN ⊢
 refine ⟨_,_,_,_,_,_,rfl,?_⟩
 have ap:=B0 l9 b6
 refine A0l G o (rM.mono E9 ap) (fun i j B c=>sM 0 o B c) o fun ek fs bu rp=>⟨_,_,_,_,rfl,?_⟩
 refine A0l G o (rN.mono E9 bu) (fun i j B c=>sM 1 o B c) o fun fu ff bv rq=>⟨_,_,_,_,rfl,?_⟩
 refine D9 (fun e=>absurd rfl e) (fun _=>D9 (fun e=>absurd rfl e) (fun _=>D9 (fun e=>absurd rfl e) (fun _=>Br.nt (Br.nt (D9 (fun e=>absurd rfl e) (fun _=>D9 (fun e=>absurd rfl e) (fun _=>?_)))))))
 have rp:=RowsV.mono bv rp
 have aa:=B0 (B0 l7 l8) (B0 ap (B0 bu bv))
 have big:∀ P Q:Nat->Nat->Rat,(∀ i j,i<s->j<s->Sz 17200 (P i j))->(∀ i j,i<s->j<s->Sz 17200 (Q i j))->∀ i j,i<s->j<s->Sz 200000 (sm s fun t=>P i t*Q t j):=fun P Q hP hQ i j B c=>by
  refine (Jr (m:=17200) (w:=s) (fun t a=>hP i t B a) (fun t a=>hQ t j a c) s (aJ _)).mono ?_
  have:s*(2*17200+1)<=3*34401:=aC _ s3
  omega
 have sP:∀ i j,i<s->j<s->Sz 17200 (fmM V (uni 0) 2 1 i j):=fun i j B c=>sM 0 o B c
 have sQ:∀ i j,i<s->j<s->Sz 17200 (fmM V (uni 1) 2 1 i j):=fun i j B c=>sM 1 o B c
 have e7:s*(2*17200+1)<=3*34401:=aC _ s3
 refine Sv (m:=17200) rp rq G o G o G o sP sQ o fun fe d6 ch bp=>⟨_,_,_,rfl,?_⟩
 refine Vf bp o G o G (big _ _ sP sQ) o fun PA pc d7 b9 b4=>⟨_,_,_,_,_,rfl,?_⟩
 have F:=B0 ch b9
 refine Sv (m:=17200) (RowsV.mono F rq) (RowsV.mono F rp) G o G o G o sQ sP o fun fa ea cv bm=>⟨_,_,_,rfl,?_⟩
 refine Vf (bm.congr fun i j B c=>(comm i j B c).symm) o G o G (big _ _ sP sQ) o fun QA et W cn bt=>⟨_,_,_,_,_,rfl,?_⟩
 have ad:=B0 cv cn
 refine Rn (b4.mono E9 ad) bt o ⟨_,rfl,Br.nt ?_⟩
 have r:=B0 F ad
 have rp:=RowsV.mono r rp
 have rb:=rb.mono A79 (B0 aa r)
 have b8:=f3.mono (B0 l4 (B0 ag (B0 aa r)))
 have ao:h.le W:=B0 O (B0 ag (B0 aa r))
 clear rM rN rq bp b4 bm bt a8 br b2
 generalize bdr V 2 1=bd at rb bR van
 generalize fmM V (uni 0) 2 1=P at rp sP van
 refine ⟨fun L hp=>∃ k:Nat,k<=s/\L=[I (k:Int)]/\W.le hp,fun L _=>s-(iAt L 0).toNat,⟨0,o,rfl,B7 _⟩,?_⟩
 rintro z hp ⟨k,hk,eL,lp⟩
 obtain rfl:=sI1 eL
 refine C0 (fun eh=>?_) (fun fo=>ak (B0 ao lp) fun cz af=>⟨_,rfl,rfl,B0 ao (B0 lp af)⟩)
 have ai:k<s:=o
 obtain ⟨a1,B1,ce,e1,x1,y1⟩:=rb.mi ai
 have bk:=bR k ai
 refine ⟨a1,e1,o,o,_,_,_,C2 lp x1,?_⟩
 refine Ro (v:=2) (j:=0) o o fun VA vc cz af fd bf=>⟨_,_,_,_,rfl,af,?_⟩
 refine Gh o fun di fj ax cr=>⟨_,_,_,_,_,_,_,_,rfl,ax,?_⟩
 refine Iw (R:=RPr) (f:=tg [(((1:Int):Rat),bd k)]) A88 (y:=(⟨di,B1,(bd k).length,ce⟩:TRm)) (by rfl) dc ⟨cr,rfl,y1.mono (B0 lp (B0 af ax))⟩ fun fv fc a9 L19=>⟨_,_,_,rfl,a9,?_⟩
 have H:Sz 1 (((1:Int):Rat)):=Ls
 refine Ei (v:=2) (E:=1) (m:=1) (L19.row Aa) rfl (aJ _) o (fun t a=>by
  obtain rfl:t=(((1:Int):Rat),bd k):=by simpa using a
  exact ⟨bk.1,bk.2,H⟩) o o o fun SA sc cm d4 ew bb cq cd dw dn au cw=>⟨_,_,_,_,rfl,bb,?_⟩
 have ae:=B0 ax (B0 a9 bb)
 refine A0k (v:=2) (E:=1) (E2:=1) (m:=1) (m2:=2) (bf.mono Aa ae) rfl o (fun t a=>by
  obtain rfl:=List.mem_singleton.1 a
  exact ⟨Rd.1,Rd.2,H⟩) cq cd o (fun t a=>⟨(au t a).1,(au t a).2.1,(au t a).2.2.mono o⟩) o o o fun TA tc cf am c9 bh ci ct dq bq ay cc=>⟨_,_,_,_,rfl,bh,?_⟩
 have bl: ∀ g,psm g am=g (opL (fun x y=>x+y) xE (bd k)):=fun g=>by
  rw [cc,cw]
  show ((1:Int):Rat)*(((1:Int):Rat)*g (opL (fun x y=>x+y) xE (bd k))+0)+0=_
  have:((1:Int):Rat)=1:=rfl
  rw [this,aN,aX,aX,aN]
 have b1:W.le c9:=B0 lp (B0 af (B0 ae bh))
 refine ⟨fun L hp=>∃ (j n':Nat) (T:List QT) (A':Option aU) (c':Nat),j<=s/\L=[I (j:Int),I ((2:Nat):Int),.slice A' n' c']/\W.le hp/\aT RPr hp A' n' (tg T)/\T.length=n'/\n'<=1+j/\n'<=c'/\TOk 2 2 (mB j) T/\(∀ g,psm g T=g (opL (fun x y=>x+y) xE (bd k))+sm j fun i=> - P i k*g (bd i)),fun L _=>s-(iAt L 0).toNat,⟨0,cf,am,_,_,o,rfl,b1,ci,ct,o,bq,fun t a=>⟨(ay t a).1,(ay t a).2.1,(ay t a).2.2.mono ?_⟩,fun g=>by rw [bl g];show _=_+(0:Rat);grind⟩,?_⟩
 ·have:cm*1*(1*(1+2+1)+1)<=1*1*5:=aF o o
  show _<=10
  omega
 rintro z2 s0 sA sn el fi ⟨j,n',T,A',c',c,a0,ah,rs,es,e0,em,os,ps⟩
 simp only [aH,aG,aE,true_and,and_true] at a0
 obtain ⟨rfl,rfl,rfl,rfl,rfl⟩:=a0
 have eu:mB j<=2790000:=by
  rcases (show j=0\/j=1\/j=2\/j=3 from o) with rfl|rfl|rfl|rfl<;>decide
 refine C0 (fun d5=>?_) (fun dz=>?_)
 ·have al:j<s:=o
  have dy:mB j<=540000:=by
   rcases (show j=0\/j=1\/j=2 from o) with rfl|rfl|rfl<;>decide
  obtain ⟨a2,v2,e2,g1,g2,x2,row2⟩:=rp.at al
  obtain ⟨a3,w3,e3,dg,d0,d1,d2,d3⟩:=row2.qat ai
  obtain ⟨a4,B4,cx,e4,x4,y4⟩:=rb.mi al
  have cl:=fun {x:aU} {u:Value} (q:W.cell? x=some u)=>C2 ah q
  refine ⟨a2,e2,o,o,_,_,_,cl x2,a3,e3,o,o,_,_,_,_,_,_,_,_,cl d0,cl d1,cl d2,cl d3,a4,e4,o,o,_,_,_,cl x4,?_⟩
  have bj:=bR j al
  refine Rt (NQ.mono ah dg) fun w5 i5=>⟨_,_,_,_,_,_,_,_,rfl,B7 _,?_⟩
  refine Gh o fun w6 fp av i6=>⟨_,_,_,_,_,_,_,_,rfl,av,?_⟩
  refine Iw (R:=RPr) (f:=tg [(((1:Int):Rat),bd j)]) A88 (y:=(⟨w6,B4,(bd j).length,cx⟩:TRm)) (by rfl) dc ⟨i6,rfl,y4.mono (B0 ah av)⟩ fun fr fk ba L23=>⟨_,_,_,rfl,ba,?_⟩
  refine Ei (v:=2) (E:=2) (m:=1) (L23.row Aa) rfl (aJ _) o (fun t a=>by
   obtain rfl:t=(((1:Int):Rat),bd j):=by simpa using a
   exact ⟨bj.1,⟨bj.2.1,by have:=bj.2.2;show (bd j).sum<=_;omega⟩,H⟩) o o o fun SA2 eg c7 dm e6 a7 cj cy ds dk ar cb=>⟨_,_,_,_,rfl,a7,?_⟩
  have C:=B0 av (B0 ba a7)
  refine A3d (v:=2) (E:=2) (m:=mB j+2) (m2:=17200) (rs.mono Aa C) es o (fun t a=>⟨(os t a).1,(os t a).2.1,(os t a).2.2.mono o⟩) cj cy o (fun t a=>⟨(ar t a).1,(ar t a).2.1,(ar t a).2.2.mono o⟩) (NQ.mono C i5) (sP j k al ai).neg o o o fun TA2 ft cu bx fq b5 ca dj dr a6 aq ck=>⟨_,_,_,_,rfl,b5,?_⟩
  rw [wiS j o]
  refine ⟨⟨j+1,cu,bx,_,_,o,rfl,B0 ah (B0 C b5),ca,dj,o,a6,fun t a=>⟨(aq t a).1,(aq t a).2.1,(aq t a).2.2.mono ?_⟩,fun g=>?_⟩,by simp only [R9];omega⟩
  ·rw [B6x]
   generalize mB j=x at *
   have e4:(sn+c7)*(x+2+17200+1)<=4*(x+2+17200+1):=aC _ o
   have e5:4*(x+2+17200+1)=4*x+68812:=o
   refine bF e4 ?_
   rw [e5];omega
  ·have ej:psm g [(((1:Int):Rat),bd j)]=g (bd j):=by
    show ((1:Int):Rat)*g (bd j)+0=_
    have:((1:Int):Rat)=1:=rfl
    rw [this,aN,aX]
   rw [ck,ps,cb,ej]
   show _=_+(sm j (fun i=> - P i k*g (bd i)) + - P j k*g (bd j))
   rw [Rat.add_assoc]
 ·obtain rfl:j=s:=o
  refine Oh (n:=2) (d:=1) o o fun LA lc bi be bg=>⟨_,_,_,rfl,?_⟩
  change MoSl bi LA (mo 2 1) at bg
  have e9:(Ul 2 (1+1)).length=nM 2 1:=rfl
  have nb:=Sg (v:=2) (d:=1) o o o
  have an:=B0 ah be
  have rs:=rs.mono Aa be
  refine ⟨fun L hp=>∃ i:Nat,i<=nM 2 1/\L=[I (i:Int)]/\bi.le hp,fun L _=>nM 2 1-(iAt L 0).toNat,⟨0,o,rfl,B7 _⟩,?_⟩
  rintro z3 ec ⟨i,B,co,N⟩
  obtain rfl:=sI1 co
  refine C0 (fun dx=>?_) (fun dl=>?_)
  ·have bw:i<nM 2 1:=o
   obtain ⟨a5,B5,d9,e5,x5,y5⟩:=bg.mon bw
   have bz:=B1l bw
   refine ⟨a5,e5,o,o,_,_,_,by rw [aK];exact C2 N x5,?_⟩
   refine Gh o fun w7 eb aj i7=>⟨_,_,_,_,_,_,_,_,rfl,aj,?_⟩
   rw [bz.1]
   have ee:sn*(mB j+1+1)<=4*(2790000+2):=aF o o
   refine Po (v:=2) (E:=2) (E2:=1) (m:=mB j) (m2:=1) (rs.mono Aa (B0 N aj)) es o os i7 (y5.mono (B0 N aj)) bz.1 bz.2 H o o o fun A8 c8 n8 dh dv az r8 e8 ei d8 o8 p8=>⟨_,_,_,_,rfl,az,?_⟩
   have b3:=B0 an (B0 N (B0 aj az))
   refine A0m (m:=sn*(mB j+1+1)) (b8.mono b3) r8 e8 o o8 (fun t a=>B51 (o8 t a).1 ⟨(o8 t a).2.1.1,by have:=(o8 t a).2.1.2;omega⟩) o fun w9 ey bo i9=>⟨_,_,_,_,_,_,_,_,rfl,bo,?_⟩
   have ez:psm (fun e=>V (Ut e).toNat) dh=0:=by
    rw [p8,ps]
    exact van ai bz.1 bz.2 _ fun e=>rfl
   rw [ez] at i9
   refine Z8 i9 ⟨_,rfl,B7 _,D9 (fun e=>absurd rfl e) (fun _=>?_)⟩
   rw [wiS i o]
   exact ⟨⟨i+1,o,rfl,B0 N (B0 aj (B0 az bo))⟩,by simp only [R9];omega⟩
  ·rw [wiS k o]
   exact ⟨⟨k+1,o,rfl,B0 an N⟩,by simp only [R9];omega⟩
end
