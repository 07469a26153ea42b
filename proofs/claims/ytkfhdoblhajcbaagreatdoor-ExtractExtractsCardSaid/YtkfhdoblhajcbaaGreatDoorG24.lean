/- A part. -/
import Derived.Test.YtkfhdoblhajcbaaGreatDoorG19
import Derived.Test.YtkfhdoblhajcbaaGreatDoorG23
open Go.Proofs.Tryz
set_option linter.all false
open _root_.Go.Addr renaming add->aC
open _root_.Go.Addr.mk renaming injEq->aT
open _root_.Go.Builtin renaming append_->aM
open Classical renaming byContradiction->cN
open _root_.Go.Instr renaming storeAt->aH,buildSlice->aO
open Int renaming mul_le_mul_of_nonneg_left->bI,pow_pos->bL,le_of_lt->bY,gcd->cJ,eq_ofNat_of_zero_le->cR,mul_zero->cY,add_zero->cZ
open List renaming length_append->aR,take_append_drop->aU,toArray->bD,append_assoc->bK,getElem_mem->bO,take_of_length_le->bU,replicate->bW,take_append_of_le_length->cF,eq_nil_of_length_eq_zero->cG,getElem?_append_right->cL,getD_eq_getElem?_getD->cM,getElem?_eq_getElem->cO,getElem?_cons_zero->cP,getElem?_cons_succ->cQ
open Nat renaming le_refl->aE,mul_le_mul_right->aG,zero_add->aI,zero_le->aP,div_lt_of_lt_mul->aW,pow_le_pow_right->bG,add_mul->bH,lt_irrefl->bM,add_zero->bX,div_eq_of_lt->bZ,one_mul->cD,le_antisymm->cH,div_le_self->cI,mod_lt->cK,mul_comm->cV,le_trans->cW,add_comm->cX
open Option.some renaming injEq->aL
open Rat renaming mul_comm->aQ,intCast_mul->aS,mul_zero->aX,add_zero->aY,divInt->aZ,divInt_eq_div->bJ,div_def->cC,zero_mul->cT,zero_add->cU
open _root_.Go.Value renaming cells->bC
open _root_.Go renaming Addr->aF,TypeId->aK,Value->aN,Program->aV
open _root_.Go.Proofs.YtkfhdoblhajcbaaGreatDoor renaming Heap->aD,FCall->aJ,SliceT->bV
namespace Go.Proofs.YtkfhdoblhajcbaaGreatDoor
set_option maxRecDepth 20000
open Go
section
set_option maxRecDepth 100000
variable {h:aD} {K:VP}
end
def A8j{x:Nat}{m:Nat}(hx:x<2^m)(hm:1<=m)(k:Nat):x^k<2^(m*k+1):=by have c:x^k<=(2^m)^k:=Nat.pow_le_pow_left (Nat.le_of_lt hx) k;rw[<- Nat.pow_mul]at c;grind
section
variable {h g:aD} {K:VP} {A B:Option aF} {s s':Bool} {an ac bn bc m:Nat} {x y:Int}
end
def A9y(B:Int):∀{ts:List Int} {k:Nat} (_:k<ts.length) (v:Int),val B (ts.set k v)=val B ts+B^k*(v-ts.getD k 0)
 | [],k,h,v=>by simp at h
 |t::ts,0,h,v=>by simp[val];grind
 |t::ts,k+1,h,v=>by
  have ih:=A9y B (ts:=ts) (k:=k) gz0 v;simp only[List.set_cons_succ,val,List.getD_cons_succ,ih,Int.pow_succ];grind
section
variable {h g:aD} {K:VP} {A B:Option aF} {s s':Bool} {an ac bn bc m:Nat} {x y:Int}
def A7w{hp:aD}{n c k:Nat}{ts:List Int}{ca:Int}(p:Pw hp g A n c ts)(hn:n=ts.length)(dt:Dig b64 ts)(hk:k<n)(hca:0<=ca/\ca<18446744073709551616){Q:Int->aD->Prop} (hQ:∀h' ts',Pw h' g A n c ts'->n=ts'.length->Dig b64 ts'->val b64 ts'+b64^(k+1)*((ts.getD k 0+ca)/18446744073709551616)=val b64 ts+b64^k*ca->Q ((ts.getD k 0+ca)/18446744073709551616) h'):∃a,A=some a/\0<=(k:Int)/\(k:Int)<((n:Nat):Int)/\∃(t:Int),Heap.cell? hp (aC a (((k:Int)).toNat*1))=some (U t)/\ECall prog 295 #[U t,U ca,U (0:Int)] hp (fun r hp1=>∃(ta tb:Int),r= .tuple #[U ta,U tb]/\∃a2,A=some a2/\0<=(k:Int)/\(k:Int)<((n:Nat):Int)/\wpH prog (aH 195 (.pointer (some (aC a2 (((k:Int)).toNat*1)))) (U ta)) (fun _ hp2=>Q tb hp2) hp1):=by have d:ts≠[]:=gz0;obtain⟨b,j,w,u⟩:=Fz p d;have s:=Q7 dt k;refine w.sl.load hn o o ?_;refine Dz s hca o ⟨_,_,rfl,?_⟩;obtain⟨a,l,_⟩:=SlV.at w.sl (i:=k) gz0;refine⟨a,l,o,o,w.storeN G8 l o ?_⟩;intro q e;simp only[cZ]at e ⊢;have f:=e.priv (m:=n) (c:=c) (by simp_all) gz0 gz0;rw[bU gz0]at f;refine hQ q _ f gz0 (dt.set (Fi _)) ?_;rw[A9y b64 o,Int.pow_succ];grind
def B30{Invv1:LP}{muv1:LN}{TA:Option aF}{tn tc i x2n:Nat}{ts:List Int}{ca:Int}{hp8 hp7:aD}(p:Pw hp8 g TA tn tc ts)(hn:tn=ts.length)(dt:Dig b64 ts)(hle:i+x2n<=tn)(hca:0<=ca/\ca<18446744073709551616)(hl:tn<=1000000000) (hK:∀TA' tn' tc' ts' h' g',g.le g'->Pw h' g' TA' tn' tc' ts'->tn'=ts'.length->Dig b64 ts'->val b64 ts'=val b64 ts+b64^(i+x2n)*ca->(tn'=tn\/(tn'=tn+1/\b64^tn<=val b64 ts'))->Invv1 [.slice TA' tn' tc',I (C4 ((i:Int)+1))] h'/\muv1 [.slice TA' tn' tc',I (C4 ((i:Int)+1))] h'<muv1 [.slice TA tn tc,I (i:Int)] hp7): Et prog x2n Invv1 muv1 TA tn tc (i:Int) ca hp8 hp7:=by unfold Et;have e1:C4 ((i:Int)+(x2n:Int))=((i+x2n:Nat):Int):=by{rw[C2 o o];omega};rw[e1];refine⟨fun L W=>∃(k:Nat) (c1:Int) (m:List Int) (A1:Option aF) (c d:Nat) (u:aD),L=[.slice A1 c d,U c1,I k]/\g.le u/\Pw W u A1 c d m/\c=m.length/\Dig b64 m/\k<=c/\(0<=c1/\c1<18446744073709551616)/\val b64 m+b64^k*c1=val b64 ts+b64^(i+x2n)*ca/\(c=tn\/(c=tn+1/\c1=0/\b64^tn<=val b64 m)),fun L _=>tn+2-(iAt L 2).toNat,⟨i+x2n,ca,ts,TA,tn,tc,g,rfl,B7 _,p,hn,dt,hle,hca,rfl,.inl rfl⟩,?_⟩;rintro A1 c d c1 k0 aa ⟨k,R,m,A1',ac,E,u,T,C,H,s,du,hk,j,hv,X⟩;obtain⟨⟨rfl,rfl,rfl⟩,rfl,rfl⟩:=T;refine E6 (fun Q=>?_) (fun Q=>?_);{have l:c=tn:=by{omega};have G:C4 ((k:Int)+1)=((k+1:Nat):Int):=by{rw[C2 o o];omega};have t:∀(D N F M:aN),tn+2-(iAt [D,N,I ((k+1:Nat):Int)] 2).toNat<tn+2-(iAt [F,M,I (k:Int)] 2).toNat:=by{intro D N F M;simp only[iAt,cP,cQ];omega};refine D5 (fun z=>?_) (fun z=>?_);{have r:k=c:=o;refine Ef S8 H rfl rfl o o ?_;intro A2 c2 h2 S l2 A;rw[<- List.map_singleton (f:=Value.int .u64),<- List.map_append]at A;have O:Dig b64 (m++[0]):=du.append (Dig.one dc);refine A7w A gz0 O o j ?_;intro h3 q w n y e;have V:(m++[0]).getD k 0=0:=by{rw[r,s,List.getD,cL (aE _)];simp};rw[V,Int.zero_add,Int.ediv_eq_zero_of_lt j.1 j.2]at e ⊢;rw[G];rw[F8,cY,cZ,cY,cZ]at e;refine⟨⟨k+1,0,q,A2,c+1,c2,S,rfl,B0 C l2,w,n,y,o,o,?_,.inr ⟨o,rfl,?_⟩⟩,t _ _ _ _⟩;{omega};·rw[e,<- l,<- r];have h5:=D0 (B:=b64) dc du;have h6:b64^k*1<=b64^k*c1:=bI o (bY (bL dc));omega};·refine A7w H s du o j ?_;intro h3 q w n y e;rw[G];have gt:=Q7 du k;refine⟨⟨k+1,_,q,A1,c,d,u,rfl,C,w,n,y,o,?_,?_,.inl l⟩,t _ _ _ _⟩;{omega};omega};grind
def B5r{XA YA TA:Option aF}{xs ys ts:List Int}{x2n x2c y2n tn tc N:Nat}{hp4:aD}(p:Pw hp4 g TA tn tc ts)(hn:tn=ts.length)(dt:Dig b64 ts)(sx:SlI .u64 g XA xs)(hx:x2n=xs.length)(dx:Dig b64 xs)(sy:SlI .u64 g YA ys)(hy:y2n=ys.length)(dy:Dig b64 ys)(hxy:x2n+y2n<=tn)(hN:tn<=N)(hN2:N<=400000000)(hV:val b64 ts+val b64 xs*val b64 ys<b64^N) (hK:∀TA' tn' tc' ts' h' g',g.le g'->Pw h' g' TA' tn' tc' ts'->tn'=ts'.length->Dig b64 ts'->val b64 ts'=val b64 ts+val b64 xs*val b64 ys->tn'<=N->K (.slice TA' tn' tc') h'): Pb prog K XA x2n x2c YA y2n TA tn tc hp4:=by have O:=D0 (B:=b64) dc dx;have j:∀k,val b64 (ys.take k)<=val b64 ys:=by{intro k;have D:=H8 b64 (ys.take k) (ys.drop k);rw[aU]at D;have h2:0<=b64^(ys.take k).length*val b64 (ys.drop k):=Int.mul_nonneg (bY (bL dc)) (D0 (B:=b64) dc (dy.drop k));omega};refine⟨fun L hp=>∃(k:Nat) (d:List Int) (A1:Option aF) (n e:Nat) (G:aD),L=[.slice A1 n e,I k]/\g.le G/\Pw hp G A1 n e d/\n=d.length/\Dig b64 d/\k<=y2n/\val b64 d=val b64 ts+val b64 xs*val b64 (ys.take k)/\x2n+y2n<=n/\n<=N,fun L _=>y2n-(iAt L 1).toNat,⟨0,ts,TA,tn,tc,g,rfl,B7 _,p,hn,dt,o,by simp[val],hxy,hN⟩,?_⟩;rintro A1 n e k0 af ⟨k,d,A1',ag,T,G,hL,y,V,aa,du,hk,hv,ad,S⟩;obtain⟨⟨rfl,rfl,rfl⟩,rfl⟩:=hL;refine C1 (fun D=>?_) (fun D=>?_);{have gy:=Q7 dy k;have vy:=C7 b64 ys k;have W:C4 ((k:Int)+(x2n:Int))=((k+x2n:Nat):Int):=by{rw[C2 o o];omega};refine(sy.mono (B0 y V.le)).load hy o o ?_;have t:d≠[]:=gz0;obtain⟨b,X,w,hc⟩:=Fz V t;refine⟨⟨o,o⟩,⟨o,o⟩,?_⟩;have i:((d.drop k).take (k+x2n-k)).length=xs.length:=gz0;refine Ja (w.sub (l:=k) (m:=k+x2n) (c:=e) o o o) o (sx.mono y) hx ((du.drop k).take _) dx i gy o ?_;intro s c h' f r C z w';rw[i]at f z;have w2:=w.whole (l:=k) (m:=k+x2n) o o o w';refine⟨_,rfl,?_⟩;have ae:(d.take k++s++d.drop (k+x2n)).length=d.length:=by{grind};have q:d.take k++s++d.drop (k+x2n)≠[]:=by{grind};have Q:=w2.priv (m:=n) (c:=e) q o o;rw[bU o]at Q;have d2:Dig b64 (d.take k++s++d.drop (k+x2n)):=((du.take k).append r).append (du.drop _);have M:d=d.take k++((d.drop k).take (k+x2n-k)++d.drop (k+x2n)):=by{have W:d.drop (k+x2n)=(d.drop k).drop (k+x2n-k):=by{simp_all};rw[W,aU,aU]};have A:val b64 (d.take k++s++d.drop (k+x2n))+b64^(k+x2n)*c=val b64 d+b64^k*(val b64 xs*ys.getD k 0):=by{have e2:val b64 d=val b64 (d.take k)+b64^k*(val b64 ((d.drop k).take (k+x2n-k))+b64^xs.length*val b64 (d.drop (k+x2n))):=by{(conv=>lhs;rw[M]);rw[H8,H8,i,List.length_take,Nat.min_eq_left o]};rw[e2,bK,H8,H8,List.length_take,Nat.min_eq_left o,f,hx,Int.pow_add];generalize b64^k=P at *;generalize b64^xs.length=R at *;grind};refine B30 Q o d2 o C o ?_;intro TA' tn' tc' ts' h3 g3 l3 p3 E d3 ac H;have u:val b64 ts'=val b64 ts+val b64 xs*val b64 (ys.take (k+1)):=by{grind};have F:tn'<=N:=by{rcases H with h4|⟨h4,h5⟩;{omega};·have h6:=bI (j (k+1)) O;grind};have e3:C4 ((k:Int)+1)=((k+1:Nat):Int):=by{rw[C2 o o];omega};rw[e3];exact⟨⟨k+1,ts',TA',tn',tc',g3,rfl,B0 y l3,p3,E,d3,o,u,o,F⟩,by simp only[iAt,cP,cQ];omega⟩};grind
def Jc{TA XA YA:Option aF}{ts:List Int}{tn tc xn xc yn yc N:Nat}(p:Pw h g TA tn tc ts)(hn:tn=ts.length)(dt:Dig b64 ts)(ma:Mw g XA xn x)(mb:Mw g YA yn y)(hxc:xn<=xc)(hyc:yn<=yc)(hN:tn<=N)(hxy:xn+yn+1<=N)(hN2:N<=400000000)(hV:val b64 ts+x*y<b64^N)
 (hK:∀TA' tn' tc' ts' h' g',g.le g'->Pw h' g' TA' tn' tc' ts'->tn'=ts'.length->Dig b64 ts'->val b64 ts'=val b64 ts+x*y->tn'<=N->K (.slice TA' tn' tc') h'):aJ prog 283 #[.slice TA tn tc,.slice XA xn xc,.slice YA yn yc] h K:=by
 refine Wu _ _ _ _ _ _ _ _ _ ?_;refine⟨fun L F=>F=h/\∃(A1 B1:Option aF) (e c1 j c2:Nat) (k c:Int),L=[.slice A1 e c1,.slice B1 j c2]/\Mw g A1 e k/\Mw g B1 j c/\e<=c1/\j<=c2/\e+j=xn+yn/\k*c=x*y,C1 (fun _=>⟨rfl,_,_,_,_,_,_,y,x,rfl,mb,ma,hyc,hxc,oo,Int.mul_comm _ _⟩) (fun _=>⟨rfl,_,_,_,_,_,_,x,y,rfl,ma,mb,hxc,hyc,rfl,rfl⟩),?_⟩;rintro A1 e c1 B1 j c2 F ⟨rfl,A1',B1',ad,ak,ae,ag,k,c,B,V,E,k1,k2,an,A⟩;obtain⟨⟨rfl,rfl,rfl⟩,rfl,rfl,rfl⟩:=B;have aa:=E.nonneg dc;refine⟨fun L s=>∃(A2 B2:Option aF) (i c3 l c4:Nat) (M y2:Int) (m:aD),L=[.slice A2 i c3,.slice B2 l c4]/\g.le m/\Pw s m TA tn tc ts/\Mw m A2 i M/\Mw m B2 l y2/\i+l<=xn+yn+1/\M*y2=x*y,C1 (fun _=>?_) (fun _=>⟨_,_,_,_,_,_,k,c,g,rfl,B7 _,p,V,E,oo,A⟩),?_⟩
 ·refine p.call ?_;refine I9 V E k1 k2 oo oo ?_;intro A3 i c3 g3 l3 k3 M3 h3 p3;refine⟨_,_,_,rfl,?_⟩;refine V6 S8 rfl ?_;intro b G
  have u:g3 b=none:=by
   cases hx1:g3 b with
   |none=>rfl
   |some o=>rw[p3.le b o hx1]at G;cases G
  refine⟨_,_,_,rfl,_,_,_,_,_,_,k*c,1,g3.put b (.cells #[U 1] 195),rfl,B0 l3 (Heap.le_put _ u),p3.put G _,M3.mono (Heap.le_put _ u),?_,?_,oo⟩
  ·refine⟨[1],rfl,SlI.new _ _ _ _ _,?_,?_,?_⟩;·intro x hx;grind
   ·unfold Norm;simp
   rfl
  ·have t:=V.lt dc;have D:=E.lt dc
   have Q:k*c<b64^(e+j):=by
    rw[Int.pow_add];by_cases h0:c=0
    ·subst h0;rw[cY];exact Int.mul_pos (bL dc) (bL dc)
    ·have h1:k*c<b64^e*c:=Int.mul_lt_mul_of_pos_right t oo;have h2:b64^e*c<=b64^e*b64^j:=bI (bY D) (bY (bL dc));omega
   have:=M3.len_le dc Q;omega
 rintro A2 i c3 B2 l c4 s ⟨A2',B2',al,ao,aj,af,M,y2,m,B,lg,p1,M1,M2,am,w⟩;obtain⟨⟨rfl,rfl,rfl⟩,rfl,rfl,rfl⟩:=B;obtain⟨xs,O,sx,dx,nx,rfl⟩:=M1;obtain⟨ys,W,sy,dy,ny,rfl⟩:=M2;have e1:C4 ((i:Int)+(l:Int))=((i+l:Nat):Int):=by rw[C2 oo oo];omega
 refine⟨fun L F=>∃(q:List Int) (A5:Option aF) (r c5:Nat) (S:aD),L=[.slice A5 r c5]/\m.le S/\Pw F S A5 r c5 q/\r=q.length/\Dig b64 q/\val b64 q=val b64 ts/\r<=N,fun L _=>match L with|[.slice _ n _]=>i+l-n|_=>0,⟨ts,TA,tn,tc,m,rfl,B7 _,p1,hn,dt,rfl,hN⟩,?_⟩
 rintro A5 r c5 ac ⟨q,A5',ai,ah,S,B,d,p5,T,du,z,H⟩;obtain⟨rfl,rfl,rfl⟩:=B;refine C1 (fun h1=>?_) (fun h1=>?_)
 ·refine Ef S8 p5 rfl rfl oo oo ?_;intro A6 c6 h6 g6 l6 p6;rw[<- List.map_singleton (f:=Value.int .u64),<- List.map_append]at p6;refine⟨⟨q++[0],A6,r+1,c6,g6,rfl,B0 d l6,p6,gz0,du.append (Dig.one dc),by rw[F8,z];simp,oo⟩,?_⟩;grind
 ·refine B5r (N:=N) p5 T du (sx.mono d) O dx (sy.mono d) W dy oo H hN2 oo ?_;intro TA' tn' tc' ts' h' g' l' p' R d' C X;rw[z,w]at C;exact hK TA' tn' tc' ts' h' g' (B0 lg (B0 d l')) p' R d' C X
def SumS(h g:aD)(b:Nat)(e:aK)(N:Nat)(M v:Int):Prop:=∃(PA NA:Option aF) (pn pc nn nc:Nat) (ps ns:List Int) (g1 g2:aD),Pw g1 g PA pn pc ps/\Pw g2 g1 NA nn nc ns/\g2 b=none/\h=g2.put b (.cells #[.slice PA pn pc,.slice NA nn nc] e)/\pn=ps.length/\nn=ns.length/\Dig b64 ps/\Dig b64 ns/\v=val b64 ps-val b64 ns/\pn<=N/\nn<=N/\val b64 ps+val b64 ns<=M
def SumS.le{b:Nat}{e:aK}{N:Nat}{M v:Int}(S:SumS h g b e N M v):g.le h:=by obtain⟨PA,NA,k,m,nn,l,ps,ns,j,i,c,d,f,rfl,_⟩:=S;exact B0 c.le (B0 d.le (Heap.le_put _ f))
def SumS.zero{b:Nat}{e:aK}{N:Nat}(hb:g b=none):SumS (g.put b (.cells #[.slice none 0 0,.slice none 0 0] e)) g b e N 0 0:=⟨none,none,0,0,0,0,[],[],g,g,Priv.nil _ _ _ _,Priv.nil _ _ _ _,hb,rfl,rfl,rfl,Dig.nil,Dig.nil,o,o,o,by simp[val]⟩
def Jo:prog.cellsOf 217=1/\(prog.info? 217).isSome=true:=by constructor<;>kernel_rfl
def Bw{b:Nat}{e:aK}{N:Nat}{M v:Int}{N1:Nat}(S:SumS h g b e N M v)(i:ZI g s A an ac x)(j:ZI g s' B bn bc y)(hab:an+bn+1<=N)(hN2:N<=400000000)(hM:M+(x*y).natAbs<b64^N1)(hN1:N1<=N) (hK:∀h' g',g.le g'->SumS h' g' b e N (M+(x*y).natAbs) (v+x*y)->K (.tuple #[]) h'):aJ prog 255 #[.pointer (some ⟨b,0,none⟩),.agg #[.bool s,.slice A an ac],.agg #[.bool s',.slice B bn bc]] h K:=by have ad:=i.zeroIff;have ae:=j.zeroIff;have c1:=Fd i.sgn;have c2:=Fd j.sgn;refine(fnk func255 (own:=[4,5]) (wr:=[283])) ?_;have same:x*y=0->K (.tuple #[]) h:=by{intro D;refine hK h g (B7 _) ?_;grind};refine D5 (fun D=>same gz0) (fun _=>D5 (fun D=>same gz0) (fun _=>?_));obtain⟨PA,NA,pn,pc,nn,nc,ps,ns,g1,g2,E,T,W,rfl,z,n,dp,Q,hv,w,C,V⟩:=S;have af:=D0 (B:=b64) dc dp;have ag:=D0 (B:=b64) dc Q;have ah:b64^N1<=b64^N:=D9 dc hN1;have D:(aC ⟨b,0,none⟩ 0)=⟨b,0,none⟩:=Ha b 0 0;have e1:(aC ⟨b,0,none⟩ 1)=⟨b,1,none⟩:=Ha b 0 1;refine Br.of (fun hs=>?_) (fun hs=>?_);{have aa:x*y= -((x.natAbs:Int)*(y.natAbs:Int)):=by{grind};refine⟨_,rfl,_,_,_,by rw[e1,D8];rfl,?_⟩;refine FCall.frame (K:=fun r O=>∃(TA':Option aF) (d f:Nat) (c:List Int) (g':aD),r= .slice TA' d f/\g1.le g'/\Pw O g' TA' d f c/\d=c.length/\Dig b64 c/\val b64 c=val b64 ns+(x.natAbs:Int)*(y.natAbs:Int)/\d<=N) W (Jc (N:=N) T n Q (i.mag.mono E.le) (j.mag.mono E.le) i.cap j.cap C hab hN2 o (fun TA' d f c h' g' t u l q m k=>⟨TA',d,f,c,g',rfl,t,u,l,q,m,k⟩)) ?_;·rintro r H p ⟨TA',d,f,c,g',rfl,t,u,l,q,m,k⟩;refine⟨_,_,_,rfl,_,rfl,?_⟩;refine Bm Jo.1 Jo.2 rfl rfl (by simp) ?_;obtain⟨R,L,F⟩:=E.after t;refine hK _ R L ⟨PA,TA',pn,pc,d,f,ps,c,g',H,F,u,p,rfl,z,l,dp,q,?_,w,k,?_⟩;{omega};omega};·have X:x*y=(x.natAbs:Int)*(y.natAbs:Int):=by{grind};obtain⟨g4,p4,G⟩:=T.swap E;refine⟨_,rfl,_,_,_,by rw[D,D8];rfl,?_⟩;refine FCall.frame (K:=fun r O=>∃(TA':Option aF) (d f:Nat) (c:List Int) (g':aD),r= .slice TA' d f/\g4.le g'/\Pw O g' TA' d f c/\d=c.length/\Dig b64 c/\val b64 c=val b64 ps+(x.natAbs:Int)*(y.natAbs:Int)/\d<=N) W (Jc (N:=N) p4 z dp (i.mag.mono G.le) (j.mag.mono G.le) i.cap j.cap w hab hN2 o (fun TA' d f c h' g' t u l q m k=>⟨TA',d,f,c,g',rfl,t,u,l,q,m,k⟩)) ?_;·rintro r H p ⟨TA',d,f,c,g',rfl,t,u,l,q,m,k⟩;refine⟨_,_,_,rfl,_,rfl,?_⟩;refine Bm Jo.1 Jo.2 rfl rfl (by simp) ?_;obtain⟨R,L,F⟩:=G.after t;obtain⟨g6,p6,p7⟩:=u.swap F;refine hK _ R L ⟨TA',NA,d,f,nn,nc,c,ns,g6,H,p7,p6,p,rfl,l,n,q,Q,?_,k,C,?_⟩;{omega};omega
def Ro{b:Nat}{e:aK}{N:Nat}{M v:Int}{N1:Nat}(S:SumS h g b e N M v)(i:ZI g s A an ac x)(j:ZI g s' B bn bc y)(hab:an+bn+1<=N)(hN2:N<=400000000)(hM:M+(x*y).natAbs<b64^N1)(hN1:N1<=N) (hK:∀h' g',g.le g'->SumS h' g' b e N (M+(x*y).natAbs) (v-x*y)->K (.tuple #[]) h'):aJ prog 256 #[.pointer (some ⟨b,0,none⟩),.agg #[.bool s,.slice A an ac],.agg #[.bool s',.slice B bn bc]] h K:=by refine(fnk func256 (os:=[(1,[0,1,3,2,4])]) (own:=[4,5]) (wr:=[255])) ?_;refine Cq (i.mono S.le) ?_;intro k d;refine⟨_,_,_,_,rfl,B7 _,?_⟩;have f:ZI g k A an ac (-x):=⟨i.cap,by rw[Int.natAbs_neg];exact i.mag,d.sgn⟩;have c:(-x*y).natAbs=(x*y).natAbs:=gz0;refine Bw (N1:=N1) S f j hab hN2 o hN1 ?_;grind
def Dc{XA YA:Option aF}{xn xc yn yc:Nat}(ma:Mw h XA xn x)(mb:Mw h YA yn y)(hyx:y<=x)(hl:xn<=1000000000)(hK:∀A' m c' h',h.le h'->m<=c'->Mw h' A' m (x-y)->K (.slice A' m c') h'):aJ prog 284 #[.slice XA xn xc,.slice YA yn yc] h K:=by have n:yn<=xn:=mb.len_le dc (Int.lt_of_le_of_lt hyx (ma.lt dc));obtain⟨B,d,q,t,D,rfl⟩:=ma;obtain⟨C,c,l,s,z,rfl⟩:=mb;refine(fnk func284 (wr:=[291])) ?_;refine N4 S8 o o o ?_;intro b k;refine⟨_,_,_,rfl,?_⟩;have w:=Win.blk .u64 195 k (bW xn 0);refine Em S8 w (by simp) (q.mono w.le) d gz0 ?_;intro A g;refine⟨_,rfl,?_⟩;rw[List.drop_of_length_le gz0,List.append_nil]at g;refine Fc g d l c t s o hyx o ?_;intro zs u p e f i;refine⟨rfl,?_⟩;refine Cc i.sl e o f (aE _) o ?_;intro m r j;exact⟨_,_,_,rfl,hK _ _ _ _ i.le r j⟩
def Nc{b:Nat}{e:aK}{N:Nat}{M v:Int}(S:SumS h g b e N M v)(hN2:N<=400000000)(hK:∀s A n c h',h.le h'->ZI h' s A n c v->K (.agg #[.bool s,.slice A n c]) h'):aJ prog 257 #[.pointer (some ⟨b,0,none⟩)] h K:=by obtain⟨PA,NA,l,m,nn,r,ps,ns,X,w,y,j,D,rfl,p,q,dp,Q,hv,F,V,u⟩:=S;have B:(aC ⟨b,0,none⟩ 0)=⟨b,0,none⟩:=Ha b 0 0;have T:(aC ⟨b,0,none⟩ 1)=⟨b,1,none⟩:=Ha b 0 1;have z:=Heap.le_put (.cells #[.slice PA l m,.slice NA nn r] e) D;refine(fnk func257 (os:=[(1,[0,1,2,3,5,6,7,8,4,9,10,11])]) (own:=[2])) ?_;refine⟨_,rfl,_,_,_,by rw[B,D8];rfl,_,rfl,_,_,_,by rw[T,D8];rfl,?_⟩;have C:SlI .u64 (w.put b (.cells #[.slice PA l m,.slice NA nn r] e)) PA ps:=SlI.mono z (SlI.mono j.le y.slV);have O:SlI .u64 (w.put b (.cells #[.slice PA l m,.slice NA nn r] e)) NA ns:=SlI.mono z j.slV;refine Cc C dp p rfl y.2.1 o ?_;intro m1 G M1;refine⟨_,_,_,rfl,B7 _,?_⟩;refine Cc O Q q rfl j.2.1 o ?_;intro W H M2;refine⟨_,_,_,rfl,B7 _,?_⟩;refine J9 M1 M2 o ⟨_,rfl,?_⟩;refine C1 (fun t=>?_) (fun t=>?_);{have f:val b64 ns<=val b64 ps:=by{unfold Sq at t;omega};refine Dc M1 M2 f o ?_;intro A3 E c3 R L k M3;obtain⟨d,i⟩:=cR (show 0<=val b64 ps-val b64 ns from o);rw[i]at M3;refine⟨_,_,_,rfl,Q3 (v:=d) M3 k ?_⟩;grind};·have f:val b64 ps<=val b64 ns:=by{unfold Sq at t;omega};refine Dc M2 M1 f o ?_;intro A3 E c3 R L k M3;obtain⟨d,i⟩:=cR (show 0<=val b64 ns-val b64 ps from o);rw[i]at M3;refine⟨_,_,_,rfl,Q3 (v:=d) M3 k ?_⟩;grind
def A9r(gl:Gtz h)(i:ZI h s A an ac x)(j:ZI h s' B bn bc y)(hx:ZB m x)(hy:ZB m y)(hm:m<=6400000000)(hK:∀A' n' c' h',h.le h'->ZI h' false A' n' c' (Int.lcm x y:Int)->K (.agg #[.bool false,.slice A' n' c']) h'):aJ prog 253 #[.agg #[.bool s,.slice A an ac],.agg #[.bool s',.slice B bn bc]] h K:=by have f:=i.zeroIff;have g:=j.zeroIff;have l:=i.len hx hm;have c:=j.len hy hm;refine(fnk func253 (own:=[2,3,4])) ?_;refine D5 (fun p=>?_) (fun R=>D5 (fun p=>?_) (fun M=>?_));{refine hK none 0 0 h (B7 _) ?_;rw[f.2 o,Int.lcm_zero_left];exact ZI.zero};{refine hK none 0 0 h (B7 _) ?_;rw[g.2 o,Int.lcm_zero_right];exact ZI.zero};·refine Oi gl i.mag j.mag i.cap j.cap l c ?_;intro A3 r c3 O d u M3;refine⟨_,_,_,rfl,d,?_⟩;rw[Int.gcd_natCast_natCast]at M3;have G:Nat.gcd x.natAbs y.natAbs≠0:=fun e=>by{grind};have C:r<=100000000:=by{refine cW (M3.len_le dc (j:=bn) ?_) c;have w:=j.mag.lt dc;have q:Nat.gcd x.natAbs y.natAbs<=y.natAbs:=Nat.gcd_le_right _ o;omega};refine W7 (j.mag.mono d) M3 j.cap u o o o ?_;intro A4 t c4 A5 F c5 H k E L M4 M5;refine⟨_,_,_,_,_,_,rfl,k,?_⟩;have n:t<=100000000:=by{refine cW (M4.len_le dc (j:=bn) ?_) c;have w:=j.mag.lt dc;have q:=cI y.natAbs (Nat.gcd x.natAbs y.natAbs);omega};refine I9 (i.mag.mono (B0 d k)) M4 i.cap E o o ?_;intro A6 N c6 Q D z M6;refine⟨_,_,_,rfl,hK _ _ _ _ (B0 d (B0 k D)) ⟨z,?_,?_⟩⟩;{have:Int.lcm x y=x.natAbs*(y.natAbs/Nat.gcd x.natAbs y.natAbs):=by{show Nat.lcm x.natAbs y.natAbs=_;rw[Nat.lcm,Nat.mul_div_assoc _ (Nat.gcd_dvd_right _ _)]};grind};rfl
end
abbrev RQr:aD->QV->Rat->Prop:=fun h w q=>RQ h w q
abbrev NQr:aD->QV->Rat->Prop:=fun h w q=>NQ h w q
abbrev ZIr:aD->IV->Int->Prop:=fun h w z=>ZI h w.s w.A w.n w.c z
abbrev SSr:aD->List UInt8->List UInt8->Prop:=fun _ w s=>w=s
def Mon{α β:Type}(R:aD->α->β->Prop):Prop:=∀(h h':aD) (w:α) (x:β),h.le h'->R h w x->R h' w x
def H1:Mon RQr:=fun _ _ _ _ c i=>⟨i.num.mono c,i.den.mono c⟩
def F0:Mon NQr:=fun _ _ _ _ c i=>NQ.mono c i
def Eh:Mon ZIr:=fun _ _ _ _ c i=>i.mono c
def E9:Mon SSr:=fun _ _ _ _ _ i=>i
instance:Enc QV:=⟨⟨fun w=>[.bool w.s,.slice w.A w.n w.c,.bool w.s2,.slice w.A2 w.n2 w.c2],4,fun _=>rfl,fun w v hv=>by simp at hv;rcases hv with rfl|rfl|rfl|rfl<;>rfl⟩⟩
section
variable {α β:Type}
def Row(R:aD->α->β->Prop)(g:aD)(xs:List α)(n:Nat)(f:Nat->β):Prop:=∀i,i<n->∃w,xs[i]? = some w/\R g w (f i)
variable {R:aD->α->β->Prop} {g g' h h':aD} {xs:List α} {n:Nat} {f:Nat->β}
def Row.mono(m:Mon R)(hl:g.le g')(r:Row R g xs n f):Row R g' xs n f:=fun i d=>by obtain⟨w,e,c⟩:=r i d;exact⟨w,e,m _ _ _ _ hl c⟩
def Row.nil:Row R g xs 0 f:=fun i c=>by omega
def Row.set{k:Nat}(r:Row R g xs k f)(hk:k<xs.length){w:α}(hw:R g w (f k)):Row R g (xs.set k w) (k+1) f:=fun i c=>by by_cases e:i=k;{grind};·obtain⟨u,j,d⟩:=r i o;grind
def Row.upd(r:Row R g xs n f){k:Nat}(hk:k<xs.length){w:α}{y:β}(hw:R g w y):Row R g (xs.set k w) n (fun i=>if i=k then y else f i):=fun i c=>by by_cases e:i=k;{grind};·obtain⟨u,j,d⟩:=r i c;grind
def Row.push(r:Row R g xs xs.length f){w:α}(hw:R g w (f xs.length)):Row R g (xs++[w]) (xs++[w]).length f:=fun i c=>by by_cases e:i=xs.length;{grind};·obtain⟨u,j,d⟩:=r i gz0;grind
def Row.congr{f':Nat->β}(r:Row R g xs n f)(h:∀i,i<n->f i=f' i):Row R g xs n f':=fun i c=>by obtain⟨w,e,d⟩:=r i c;grind
def Row.get(r:Row R g xs n f){i:Nat}(hi:i<n)(hl:i<xs.length):R g xs[i] (f i):=by obtain⟨w,e,c⟩:=r i hi;grind
variable [E:Enc α]
def RowV(R:aD->α->β->Prop)(h:aD)(A:Option aF)(n:Nat)(f:Nat->β):Prop:=∃xs:List α,SlF h A xs/\xs.length=n/\Row R h xs n f
def RowV.mono(m:Mon R){A:Option aF}(hl:h.le h')(r:RowV R h A n f):RowV R h' A n f:=by obtain⟨c,s,e,r⟩:=r;exact⟨c,s.mono hl,e,r.mono m hl⟩
def RowV.nil{A:Option aF}:RowV R h A 0 f:=⟨[],SlF.nil,rfl,Row.nil⟩
def RowV.congr{A:Option aF}{f':Nat->β}(r:RowV R h A n f)(e:∀i,i<n->f i=f' i):RowV R h A n f':=by obtain⟨c,s,l,r⟩:=r;exact⟨c,s,l,r.congr e⟩
def RowV.cut{A:Option aF}(r:RowV R h A n f){c l k:Nat}(hlk:l+k<=n)(hc:n<=c):RowV R h (V3 A c l E.default.size) k (fun i=>f (l+i)):=by obtain⟨d,s,e,r⟩:=r;refine⟨(d.drop l).take (l+k-l),s.cut (l:=l) (m:=l+k) o o o,gz0,fun i j=>?_⟩;obtain⟨w,p,g⟩:=r (l+i) o;grind
def RowV.at(pos:0<E.default.size){A:Option aF}(r:RowV R h A n f){i:Nat}(hi:i<n):∃a w,A=some a/\R h w (f i)/\∀j v,(enc w)[j]? = some v->h.cell? (aC (aC a (i*E.default.size)) j)=some v:=by obtain⟨c,s,e,r⟩:=r;obtain⟨a,d,g⟩:=SlF.at pos s (i:=i) o;exact⟨a,c[i],d,r.get hi o,g⟩
structure Own (R:aD->α->β->Prop) (h h':aD) (b n:Nat) (f:Nat->β):Prop where
 ex:∃ g o xs,h.le g/\Sep h' g o/\RowX o b xs/\xs.length=n/\Row R g xs n f
def Own.le{b:Nat}(w:Own R h h' b n f):h.le h':=by obtain⟨g,o,c,l,s,_⟩:=w.ex;exact B0 l s.le
def Own.vis(m:Mon R){b:Nat}(w:Own R h h' b n f):RowV R h' (some ⟨b,0,none⟩) n f:=by obtain⟨g,o,c,l,s,r,e,q⟩:=w.ex;exact⟨c,r.rowB.slF s.ole,e,q.mono m s.le⟩
end
section
variable {h:aD} {A:Option aF} {n:Nat}
def RowV.qat{R:aD->QV->Rat->Prop}{f:Nat->Rat}(r:RowV R h A n f){i:Nat}(hi:i<n):∃a w,A=some a/\R h w (f i)/\h.cell? (aC (aC a (i*4)) 0)=some (.bool w.s)/\h.cell? (aC (aC a (i*4)) 1)=some (.slice w.A w.n w.c)/\h.cell? (aC (aC a (i*4)) 2)=some (.bool w.s2)/\h.cell? (aC (aC a (i*4)) 3)=some (.slice w.A2 w.n2 w.c2):=by obtain⟨a,w,e,g,d⟩:=r.at dc hi;exact⟨a,w,e,g,d 0 _ rfl,d 1 _ rfl,d 2 _ rfl,d 3 _ rfl⟩
def RowV.zat{f:Nat->Int}(r:RowV ZIr h A n f){i:Nat}(hi:i<n):∃a w,A=some a/\ZIr h w (f i)/\h.cell? (aC (aC a (i*2)) 0)=some (.bool w.s)/\h.cell? (aC (aC a (i*2)) 1)=some (.slice w.A w.n w.c):=by obtain⟨a,w,e,g,d⟩:=r.at dc hi;exact⟨a,w,e,g,d 0 _ rfl,d 1 _ rfl⟩
def RowV.sat{f:Nat->List UInt8}(r:RowV SSr h A n f){i:Nat}(hi:i<n):∃a,A=some a/\h.cell? (aC a (i*1))=some (.string (bs (f i))):=by obtain⟨a,w,e,d,g⟩:=r.at dc hi;have c:w=f i:=d;subst c;refine⟨a,e,?_⟩;have:=g 0 _ rfl;assumption
end
section
set_option maxRecDepth 100000
variable {h:aD} {K:VP}
def Gf:bV prog 22 3 (I 0) 1 8:=⟨by kernel_rfl,by kernel_rfl,rfl,dc⟩
def Fa:prog.cellsOf 3=1/\(prog.info? 3).isSome=true:=⟨by kernel_rfl,by kernel_rfl⟩
def A0v:bV prog 232 244 (Qv false none 0 0 false none 0 0) 4 64:=⟨by kernel_rfl,by kernel_rfl,rfl,dc⟩
def Ge:prog.cellsOf 244=4/\(prog.info? 244).isSome=true:=⟨by kernel_rfl,by kernel_rfl⟩
def tZs:bV prog 285 219 (Zv false none 0 0) 2 32:=⟨by kernel_rfl,by kernel_rfl,rfl,dc⟩
def Sw:prog.cellsOf 219=2/\(prog.info? 219).isSome=true:=⟨by kernel_rfl,by kernel_rfl⟩
def B65:bV prog 26 27 (N0) 1 24:=⟨by kernel_rfl,by kernel_rfl,rfl,dc⟩
def A6f:prog.cellsOf 27=1/\(prog.info? 27).isSome=true:=⟨by kernel_rfl,by kernel_rfl⟩
def C3n:bV prog 319 322 (.agg #[Sl none 0 0,.bool false,Sl none 0 0]) 3 56:=⟨by kernel_rfl,by kernel_rfl,rfl,dc⟩
def B64:bV prog 39 31 (N0) 1 24:=⟨by kernel_rfl,by kernel_rfl,rfl,dc⟩
def A0u:∀(args:Array aN) (W:World),(callFunc 251 args).run prog W= .ok (.enter 251 args) W:=call251
def Vx(P:aV)(d:OA)(e i:Nat)(b4:Int)(b5:LP)(j:LN)(c:Int)(b6:Bool)(b7:OA)(b8 b9:Nat)(c0:Bool)(c1:OA)(c2 c3:Nat)(c4:aD)(c5:aD):Prop:=∃(f:LP) (k:LN),f [I b4] c4/\∀b a,f [I b] a->∃o,Ax d o c e <| ∃c8 l c9,Hd a (o.add (c.toNat*1)) c8 l c9<|Bd (b<(l:Int)) (∃p,Ax d p c e <| ∃q r d0,Hd a (p.add (c.toNat*1)) q r d0 <| ∃s,Ax d s c e <| ∃t u d1,Hd a (s.add (c.toNat*1)) t u d1 <| ∃v,Ax t v b u <| ∃w x y z A B C D,Lq a (v.add (b.toNat*4)) w x y z A B C D <| ∃E,Ax d E (i:Int) e <| ∃F G d2,Hd a (E.add (((i:Int)).toNat*1)) F G d2 <| ∃H,Ax F H b G <| ∃L M N O Q R S T,Lq a (H.add (b.toNat*4)) L M N O Q R S T<|aJ P 65 #[Qv b6 b7 b8 b9 c0 c1 c2 c3,Qv L M N O Q R S T] a (fun c6 g=>∃V W X a0 a1 a2 a3 a4,c6=Qv V W X a0 a1 a2 a3 a4/\a.le g/\aJ P 69 #[Qv w x y z A B C D,Qv V W X a0 a1 a2 a3 a4] g (fun c7 m=>∃a5 a6 a7 a8 a9 b0 b1 b2,c7=Qv a5 a6 a7 a8 a9 b0 b1 b2/\g.le m/\∃b3,Ax q b3 b r<|wpH P (aH 37 (Pt (b3.add (b.toNat*4))) (Qv a5 a6 a7 a8 a9 b0 b1 b2)) (fun _ n=>f [I (C4 (b+1))] n/\k [I (C4 (b+1))] n<k [I b] a) m))) (b5 [I (C4 (c+1))] a/\j [I (C4 (c+1))] a<j [I c] c5)
def Lw(P:aV)(u:OA)(g:Nat)(T:LP)(v:LN)(w:OA)(f x:Nat)(c:Int)(V:Bool)(W:OA)(X a0:Nat)(a1:Bool)(a2:OA)(a3 a4:Nat)(y:Bool)(z:OA)(A B:Nat)(C:Bool)(D:OA)(E F:Nat)(a5:aD)(a6:aD):Prop:=∃(d:LP) (e:LN),d [I 0] a6/\∀a b,d [I a] b->Bd (a<(g:Int)) (∃H,Ax u H a g <| ∃L M b1,Hd b (H.add (a.toNat*1)) L M b1 <| ∃N,Ax L N c M <| ∃j k l m n o p q,Lq b (N.add (c.toNat*4)) j k l m n o p q<|Br (a==(f:Int)) (d [I (C4 (a+1))] b/\e [I (C4 (a+1))] b<e [I a] b) (aJ P 19 #[Qv j k l m n o p q] b (fun a7 i=>∃O,a7=I O/\Br (O==0) (d [I (C4 (a+1))] i/\e [I (C4 (a+1))] i<e [I a] b) (Vx P u g f c d e a j k l m n o p q i b)))) (wpH P (aO 22 1 #[(0,I c)]) (fun a8 a9=>∃Q R S,a8=Sl Q R S/\wpH P (aM #[22,22] 22 #[Sl w f x,Sl Q R S]) (fun b0 G=>∃r s t,b0=Sl r s t/\T [.slice r s t,I (C4 (c+1)),.bool y,.slice z A B,.bool C,.slice D E F] G/\v [.slice r s t,I (C4 (c+1)),.bool y,.slice z A B,.bool C,.slice D E F] G<v [.slice w f x,I c,.bool V,.slice W X a0,.bool a1,.slice a2 a3 a4] a5) a9) b)
def Vy(P:aV)(d:OA)(e:Nat)(N:LP)(O:LN)(Q:OA)(c R:Nat)(S:Int)(T:Bool)(V:OA)(W X:Nat)(a0:Bool)(a1:OA)(a2 a3:Nat)(a4:Bool)(a5:OA)(a6 a7:Nat)(a8:Bool)(a9:OA)(b0 b1:Nat)(b2:Bool)(b3:OA)(b4 b5:Nat)(b6:Bool)(b7:OA)(b8 b9:Nat)(c0:aD)(c1:aD):Prop:=∃(f:LP) (g:LN),f [I 0] c0/\∀a b,f [I a] b->∃l,Ax d l (c:Int) e <| ∃c3 i c4,Hd b (l.add (((c:Int)).toNat*1)) c3 i c4<|Bd (a<(i:Int)) (∃m,Ax d m (c:Int) e <| ∃n o c5,Hd b (m.add (((c:Int)).toNat*1)) n o c5 <| ∃p,Ax d p (c:Int) e <| ∃q r c6,Hd b (p.add (((c:Int)).toNat*1)) q r c6 <| ∃s,Ax q s a r <| ∃t u v w x y z A,Lq b (s.add (a.toNat*4)) t u v w x y z A<|aJ P 127 #[Qv t u v w x y z A,Qv a4 a5 a6 a7 a8 a9 b0 b1] b (fun c2 j=>∃B C D E F G H L,c2=Qv B C D E F G H L/\b.le j/\∃M,Ax n M a o<|wpH P (aH 37 (Pt (M.add (a.toNat*4))) (Qv B C D E F G H L)) (fun _ k=>f [I (C4 (a+1))] k/\g [I (C4 (a+1))] k<g [I a] b) j)) (Lw P d e N O Q c R S T V W X a0 a1 a2 a3 b2 b3 b4 b5 b6 b7 b8 b9 c1 b)
def Vz(P:aV)(m:OA)(n:Nat)(A:LP)(B:LN)(C:OA)(a D:Nat)(b:Int)(E:Bool)(F:OA)(G H:Nat)(L:Bool)(M:OA)(N O:Nat)(Q:Bool)(R:OA)(S T:Nat)(V:Bool)(W:OA)(X a0:Nat)(a1:aD)(c:aD):Prop:=∃o,Ax m o (a:Int) n <| ∃p q a4,Hd c (o.add (((a:Int)).toNat*1)) p q a4 <| ∃r,Ax p r b q <| ∃d e f g i j k l,Lq c (r.add (b.toNat*4)) d e f g i j k l<|aJ P 65 #[Qv Q R S T V W X a0,Qv d e f g i j k l] c (fun a2 a3=>∃s t u v w x y z,a2=Qv s t u v w x y z/\Vy P m n A B C a D b E F G H L M N O d e f g i j k l s t u v w x y z a3 a1)
def Wa(P:aV)(e:OA)(b:Nat)(t:LP)(r:LN)(f:OA)(a g:Nat)(i:Int)(j:Bool)(k:OA)(l m:Nat)(n:Bool)(o:OA)(p q:Nat)(c:Int)(u:aD)(d:aD):Prop:=Br (c==(b:Int)) (t [.slice f a g,I (C4 (i+1)),.bool false,N0,.bool false,N0] d/\r [.slice f a g,I (C4 (i+1)),.bool false,N0,.bool false,N0] d<r [.slice f a g,I i,.bool j,.slice k l m,.bool n,.slice o p q] u) (∃(s:LP),(Br (c != (a:Int)) (∃v,Ax e v (a:Int) b <| ∃w x y,Hd d (v.add (((a:Int)).toNat*1)) w x y <| ∃z,Ax e z c b <| ∃A B C,Hd d (z.add (c.toNat*1)) A B C <| ∃D,Ax e D c b<|wpH P (aH 27 (Pt (D.add (c.toNat*1))) (.slice w x y)) (fun _ a3=>∃E,Ax e E (a:Int) b<|wpH P (aH 27 (Pt (E.add (((a:Int)).toNat*1))) (.slice A B C)) (fun _ a4=>aJ P 40 #[Qv j k l m n o p q] a4 (fun a5 a6=>∃F G H L M N O Q,a5=Qv F G H L M N O Q/\s [.bool F,.slice G H L,.bool M,.slice N O Q] a6)) a3) d) (s [.bool j,.slice k l m,.bool n,.slice o p q] d))/\∀R S T V W X a0 a1 a2,s [.bool R,.slice S T V,.bool W,.slice X a0 a1] a2->Vz P e b t r f a g i j k l m n o p q R S T V W X a0 a1 u a2)
def B60(P:aV)(a3:OA)(a4 a5:Nat)(t:Int)(h:aD)(K:VP):Prop:=aJ P 126 #[Sl a3 a4 a5] h (fun a7 a8=>∃d b j,a7=Sl d b j/\aJ P 38 #[I 1] a8 (fun a9 b0=>∃z A B C D E F G,a9=Qv z A B C D E F G/\∃(u:LP) (a6:LN),u [N0,I 0,.bool z,.slice A B C,.bool D,.slice E F G] b0/\∀f a g k l m n o p q r s e,u [.slice f a g,I k,.bool l,.slice m n o,.bool p,.slice q r s] e->Bd (k<t) (Bd ((a:Int)<(b:Int)) (∃(v:LP),(∃(w:LP) (y:LN),w [I (a:Int)] e/\∀c i,w [I c] i->Bd (c<(b:Int)) (∃H,Ax d H c b <| ∃L M b2,Hd i (H.add (c.toNat*1)) L M b2 <| ∃N,Ax L N k M <| ∃O Q R S T V W X,Lq i (N.add (k.toNat*4)) O Q R S T V W X<|aJ P 19 #[Qv O Q R S T V W X] i (fun b1 x=>∃a0,b1=I a0/\Br (a0==0) (w [I (C4 (c+1))] x/\y [I (C4 (c+1))] x<y [I c] i) (v [I c] x))) (v [I c] i))/\∀a1 a2,v [I a1] a2->Wa P d b u a6 f a g k l m n o p q r s a1 e a2) (Bd ((a:Int)<t) (K (.tuple #[Sl d b j,Sl f a g,Qv false none 0 0 false none 0 0]) e) (K (.tuple #[Sl d b j,Sl f a g,Qv l m n o p q r s]) e))) (Bd ((a:Int)<t) (K (.tuple #[Sl d b j,Sl f a g,Qv false none 0 0 false none 0 0]) e) (K (.tuple #[Sl d b j,Sl f a g,Qv l m n o p q r s]) e))))
def A64 a b c d(hvc:B60 prog a b c d h K):aJ prog 75 #[Sl a b c,I d] h K:=fnq func75 ⟨[(5,⟨[8,10],[(9,4)],[N0,I 0,.bool false,N0,.bool false,N0],⟨([8]++Lrg 10 8++Lrg 21 148),[9,13,16]⟩⟩),(9,⟨[12],[],[I 0],⟨([12]++Lrg 36 17),[]⟩⟩),(19,⟨[14],[],[I 0],⟨([14]++Lrg 87 24),[]⟩⟩),(23,⟨[15],[],[I 0],⟨([15,16,17]++Lrg 111 54),[16]⟩⟩),(28,⟨[17],[],[I 0],⟨([17]++Lrg 133 32),[]⟩⟩)],[(11,⟨[12],[],[I 0],⟨([12]++Lrg 36 17),[]⟩⟩),(16,⟨[],[(9,4)],[.bool false,N0,.bool false,N0],⟨(Lrg 58 19),[9]⟩⟩)],[],[],[]⟩ [6,9,13,16] [] hvc
end
end Go.Proofs.YtkfhdoblhajcbaaGreatDoor
namespace Go.Proofs.YtkfhdoblhajcbaaGreatDoor
set_option maxRecDepth 20000
def sm:Nat->(Nat->Rat)->Rat
 |0,_=>0
 |n+1,f=>sm n f+f n
def C5{n:Nat}{f g:Nat->Rat}(h:∀i,i<n->f i=g i):sm n f=sm n g:=by
 induction n with
 |zero=>rfl
 |succ n ih=>rw[sm,sm,ih (fun i c=>h i o),h n o]
def K7{n:Nat}{f:Nat->Rat}(h:∀i,i<n->f i=0):sm n f=0:=by
 induction n with
 |zero=>rfl
 |succ n ih=>rw[sm,ih (fun i c=>h i o),h n o];exact aY 0
def Y7(n:Nat)(f g:Nat->Rat):sm n (fun i=>f i+g i)=sm n f+sm n g:=by
 induction n with
 |zero=>simp only[sm];exact(aY 0).symm
 |succ n ih=>simp only[sm];rw[ih];grind
def J3(n:Nat)(a:Rat)(f:Nat->Rat):sm n (fun i=>a*f i)=a*sm n f:=by
 induction n with
 |zero=>simp only[sm];grind
 |succ n ih=>simp only[sm];rw[ih];grind
def Hh(n:Nat)(f:Nat->Rat):sm n (fun i=>- f i)= - sm n f:=by
 induction n with
 |zero=>simp only[sm];grind
 |succ n ih=>simp only[sm];rw[ih];grind
def V5(n m:Nat)(f:Nat->Nat->Rat):sm n (fun i=>sm m (f i))=sm m (fun j=>sm n (fun i=>f i j)):=by
 induction n with
 |zero=>rw[sm];exact(K7 fun _ _=>rfl).symm
 |succ n ih=>simp only[sm];rw[ih,<- Y7]
def N6{n k:Nat}(hk:k<n){f:Nat->Rat}(h:∀i,i<n->i≠k->f i=0):sm n f=f k:=by
 induction n with
 |zero=>omega
 |succ n ih=>
  rw[sm];by_cases e:k=n;·subst e;rw[K7 fun i d=>h i o o];exact cU _
  ·rw[ih o fun i d c=>h i o c,h n o o];exact aY _
def rhx(l i:Nat):Nat:=if i<l then i else i+1
def C0n(l i:Nat):rhx l i≠l:=by unfold rhx;split<;>omega
def A6o{l i k:Nat}(hi:i<k):rhx l i<k+1:=by unfold rhx;split<;>omega
def C0g{k a:Nat}(ha:a<=k)(t:Nat->Rat):sm k (fun i=>t (rhx a i))=sm (k+1) (fun b=>if b=a then 0 else t b):=by
 induction k generalizing a with
 |zero=>
  show(0:Rat)=0+(if 0=a then 0 else t 0);rw[iP o];exact(aY 0).symm
 |succ k ih=>
  show sm k (fun i=>t (rhx a i))+t (rhx a k)=sm (k+1) (fun b=>if b=a then 0 else t b)+(if k+1=a then 0 else t (k+1));by_cases e:a=k+1
  ·rw[iP e.symm,aY];show sm k (fun i=>t (rhx a i))+t (rhx a k)=sm k (fun b=>if b=a then 0 else t b)+(if k=a then 0 else t k);rw[iN o];congr 1;·exact C5 fun i c=>by rw[rhx,iP o,iN o]
   ·rw[rhx,iP o]
  ·rw[ih o,iN (fun x=>e x.symm)];congr 1;rw[rhx,iN o]
def sg(n:Nat):Rat:=if n%2=0 then 1 else -1
def dt:Nat->(Nat->Nat->Rat)->Rat
 |0,_=>1
 |k+1,X=>sm (k+1) fun l=>sg (k+l)*X k l*dt k (fun c r=>X c (rhx l r))
def Aj{k:Nat}:∀{X Y:Nat->Nat->Rat},(∀c r,c<k->r<k->X c r=Y c r)->dt k X=dt k Y:=by
 induction k with
 |zero=>intros;rfl
 |succ k ih=>
  intro X Y h;rw[dt,dt];refine C5 fun l d=>?_;rw[h k l o d,ih fun c r f e=>h c (rhx l r) o (A6o e)]
def rc(X:Nat->Nat->Rat)(m:Nat)(y:Nat->Rat):Nat->Nat->Rat:=fun c r=>if c=m then y r else X c r
def Gs(X:Nat->Nat->Rat)(m:Nat)(y:Nat->Rat)(l:Nat):(fun c r=>rc X m y c (rhx l r))=rc (fun c r=>X c (rhx l r)) m (fun r=>y (rhx l r)):=by funext c r;unfold rc;split<;>rfl
def A36{k:Nat}:∀(X:Nat->Nat->Rat) {m:Nat} (_:m<k) (y z:Nat->Rat),dt k (rc X m fun r=>y r+z r)=dt k (rc X m y)+dt k (rc X m z):=by
 induction k with
 |zero=>intros;omega
 |succ k ih=>
  intro X m d y z;rw[dt,dt,dt,<- Y7];refine C5 fun l f=>?_;by_cases e:m=k
  ·subst e;have:∀u:Nat->Rat,dt m (fun c r=>rc X m u c (rhx l r))=dt m (fun c r=>X c (rhx l r)):=fun u=>Aj fun c r g _=>by rw[rc,iN o]
   rw[this,this,this];simp only[rc,if_true];grind
  ·rw[Gs,Gs,Gs,ih _ o];simp only[rc,iN (fun x:k=m=>e x.symm)];grind
def B2e{k:Nat}:∀(X:Nat->Nat->Rat) {m:Nat} (_:m<k) (a:Rat) (y:Nat->Rat),dt k (rc X m fun r=>a*y r)=a*dt k (rc X m y):=by
 induction k with
 |zero=>intros;omega
 |succ k ih=>
  intro X m d a y;rw[dt,dt,<- J3];refine C5 fun l f=>?_;by_cases e:m=k
  ·subst e;have:∀u:Nat->Rat,dt m (fun c r=>rc X m u c (rhx l r))=dt m (fun c r=>X c (rhx l r)):=fun u=>Aj fun c r g _=>by rw[rc,iN o]
   rw[this,this];simp only[rc,if_true];grind
  ·rw[Gs,Gs,ih _ o];simp only[rc,iN (fun x:k=m=>e x.symm)];grind
def B9c{k:Nat}(X:Nat->Nat->Rat){m:Nat}(hm:m<k):dt k (rc X m fun _=>0)=0:=by have:=B2e X hm 0 (fun _=>0);rw[cT]at this;simpa only[cT]using this
def B73{k:Nat}(X:Nat->Nat->Rat){m:Nat}(hm:m<k)(a:Nat->Rat)(Y:Nat->Nat->Rat):∀n,dt k (rc X m fun r=>sm n fun t=>a t*Y t r)=sm n fun t=>a t*dt k (rc X m (Y t)):=by
 intro n
 induction n with
 |zero=>exact B9c X hm
 |succ n ih=>
  simp only[sm];rw[A36 X hm,ih,B2e X hm]
def A4u(X:Nat->Nat->Rat)(m:Nat):rc X m (X m)=X:=by funext c r;unfold rc;split;{rename_i e;rw[e]};·rfl
def A7m{k:Nat}(X:Nat->Nat->Rat)(h:∀r,r<k+2->X k r=X (k+1) r):dt (k+2) X=0:=by let mn:Nat->Nat->Rat:=fun a b=>dt k (fun c r=>X c (if a<b then rhx a (rhx (b-1) r)else rhx b (rhx (a-1) r)));let G:Nat->Nat->Rat:=fun a b=>if a=b then 0 else if b<a then sg (a+b)*X (k+1) a*X (k+1) b*mn a b else-(sg (a+b)*X (k+1) a*X (k+1) b*mn a b);have m:∀a b,mn a b=mn b a:=by{intro a b;show dt k _=dt k _;refine Aj fun c r _ _=>?_;by_cases d:a<b;{rw[iP d,iN o]};·by_cases n:b<a;{rw[iN d,iP n]};·have:a=b:=o;subst this;rfl};have t:∀a b,G b a= - G a b:=by{intro a b;show(if b=a then 0 else if a<b then _ else _)= - (if a=b then 0 else if b<a then _ else _);by_cases e:a=b;{rw[iP e,iP e.symm];grind};·rw[iN e,iN (fun x=>e x.symm)];have z:=m a b;by_cases d:a<b;{rw[iP d,iN o,cX b a];grind};·rw[iN d,iP o,cX b a];grind};have f:dt (k+2) X=sm (k+2) fun a=>sm (k+2) fun b=>G a b*sg (k+1+k):=by{rw[dt];refine C5 fun a u=>?_;have p:(fun b=>G a b*sg (k+1+k))=(fun b=>if b=a then 0 else(fun b=>G a b*sg (k+1+k)) b):=by{funext b;by_cases e:b=a;{subst e;rw[iP rfl];show(if b=b then 0 else _)*_=_;rw[iP rfl];grind};·rw[iN e]};rw[p,<- C0g o (fun b=>G a b*sg (k+1+k)),dt,<- J3];refine C5 fun i s=>?_;have l:X k (rhx a i)=X (k+1) (rhx a i):=h _ (A6o s);have j:dt k (fun c r=>X c (rhx a (rhx i r)))=mn a (rhx a i):=by{show _=dt k _;refine Aj fun c r _ _=>?_;by_cases d:i<a;{have g:rhx a i=i:=by{rw[rhx,iP d]};rw[g,iN o];congr 1;simp only[rhx];(repeat' split);all_goals omega};·have g:rhx a i=i+1:=by{rw[rhx,iN d]};rw[g,iP o,Nat.add_sub_cancel]};rw[l,j];show _=(if a=rhx a i then 0 else if rhx a i<a then _ else _)*_;rw[iN (fun e=>C0n a i e.symm)];have w:∀x y:Nat,x%2=y%2->sg x=sg y:=fun x y e=>by{unfold sg;rw[e]};by_cases d:i<a;{have g:rhx a i=i:=by{rw[rhx,iP d]};rw[g,iP d];have q:sg (k+1+a)*sg (k+i)=sg (a+i)*sg (k+1+k):=by{unfold sg;(repeat' split);all_goals first|omega|grind};grind};·have g:rhx a i=i+1:=by{rw[rhx,iN d]};rw[g,iN o];have q:sg (k+1+a)*sg (k+i)= - sg (a+(i+1))*sg (k+1+k):=by{unfold sg;(repeat' split);all_goals first|omega|grind};grind};have n:dt (k+2) X= - dt (k+2) X:=by{have:dt (k+2) X=sm (k+2) fun a=>sm (k+2) fun b=>G b a*sg (k+1+k):=by{rw[f];exact V5 _ _ _};refine this.trans ?_;rw[f,<- Hh];refine C5 fun a _=>?_;rw[<- Hh];exact C5 fun b _=>by rw[t];grind};grind
def B9e:∀{k:Nat} (X:Nat->Nat->Rat) {p q:Nat} (_:p<q) (_:q<k) (_:∀r,r<k->X p r=X q r),dt k X=0:=by
 intro k
 induction k with
 |zero=>intros;omega
 |succ k ih=>
  intro X p q i D h;by_cases e:q=k
  ·subst e;by_cases C:p+1=q
   ·subst C;exact A7m X h
   ·
    obtain⟨k',rfl⟩:∃k',q=k'+1:=⟨q-1,o⟩;have n:p<k':=o
    have swap:∀(Z:Nat->Nat->Rat),dt (k'+1) (rc (rc Z p (Z k')) k' (Z p))= - dt (k'+1) Z:=by
     intro Z
     have m:∀y:Nat->Rat,dt (k'+1) (rc (rc Z p y) k' y)=0:=fun y=>ih _ n o fun r _=>by
      unfold rc;rw[iN o,iP rfl,iP rfl]
     have comm:∀y z:Nat->Rat,rc (rc Z p y) k' z=rc (rc Z k' z) p y:=by
      intro y z;funext c r;unfold rc;by_cases f:c=k'
      ·by_cases d:c=p;·omega
       ·rw[iP f,iN d,iP f]
      ·by_cases d:c=p;·rw[iN f,iP d,iP d]
       ·rw[iN f,iN d,iN d,iN f]
     have g:=m (fun r=>Z p r+Z k' r);rw[A36 _ o]at g;rw[comm _ (Z p),comm _ (Z k'),A36 _ o,A36 _ o]at g;rw[<- comm,<- comm,<- comm,<- comm]at g;rw[m (Z p),m (Z k')]at g;have u:rc (rc Z p (Z p)) k' (Z k')=Z:=by rw[A4u,A4u]
     rw[u]at g;grind
    have B:dt (k'+1+1) X= - dt (k'+1+1) (rc (rc X p (X k')) k' (X p)):=by
     rw[dt,dt,<- Hh];refine C5 fun l _=>?_;have w:rc (rc X p (X k')) k' (X p) (k'+1) l=X (k'+1) l:=by unfold rc;rw[iN o,iN o]
     have s:(fun c r=>rc (rc X p (X k')) k' (X p) c (rhx l r))=rc (rc (fun c r=>X c (rhx l r)) p (fun r=>X k' (rhx l r))) k' (fun r=>X p (rhx l r)):=by
      rw[Gs,Gs]
     have:=swap (fun c r=>X c (rhx l r));rw[w,s,this];grind
    rw[B,A7m _ fun r j=>?_];·grind
    ·have t:rc (rc X p (X k')) k' (X p) k' r=X p r:=by unfold rc;rw[iP rfl]
     have A:rc (rc X p (X k')) k' (X p) (k'+1) r=X (k'+1) r:=by unfold rc;rw[iN o,iN o]
     rw[t,A];exact h r j
  ·rw[dt];refine K7 fun l _=>?_;rw[ih _ i o fun r j=>h (rhx l r) (A6o j)];grind
def B9d{k:Nat}(X:Nat->Nat->Rat)(h:∀r,r<k->X k r=0):dt (k+1) X=X k k*dt k X:=by rw[dt,N6 (k:=k) o fun i g e=>by rw[h i o];grind];have:dt k (fun c r=>X c (rhx k r))=dt k X:=Aj fun c r _ f=>by{rw[rhx,iP f]};have d:sg (k+k)=1:=by{unfold sg;rw[iP o]};rw[this,d,Rat.one_mul]
def Wh(q:Rat):Prop:=∃z:Int,q=(z:Rat)
def Wh.add{p q:Rat}(hp:Wh p)(hq:Wh q):Wh (p+q):=by obtain⟨a,rfl⟩:=hp;obtain⟨b,rfl⟩:=hq;exact⟨a+b,by rw[Rat.intCast_add]⟩
def Wh.mul{p q:Rat}(hp:Wh p)(hq:Wh q):Wh (p*q):=by obtain⟨a,rfl⟩:=hp;obtain⟨b,rfl⟩:=hq;exact⟨a*b,by rw[aS]⟩
def Wh.sg(n:Nat):Wh (sg n):=by unfold Go.Proofs.YtkfhdoblhajcbaaGreatDoor.sg;split;{exact⟨1,rfl⟩};·exact⟨-1,by decide +kernel⟩
def Wh.sm{n:Nat}{f:Nat->Rat}(h:∀i,i<n->Wh (f i)):Wh (sm n f):=by
 induction n with
 |zero=>exact⟨0,rfl⟩
 |succ n ih=>exact(ih fun i c=>h i o).add (h n o)
def C2t{k:Nat}:∀{X:Nat->Nat->Rat},(∀c r,c<k->r<k->Wh (X c r))->Wh (dt k X):=by
 induction k with
 |zero=>intro X _;exact⟨1,rfl⟩
 |succ k ih=>
  intro X h;rw[dt];refine Wh.sm fun l d=>?_;exact((Wh.sg _).mul (h k l o d)).mul (ih fun c r f e=>h c _ o (A6o e))
structure Elim (n w:Nat) (B R:Nat->Nat->Rat) (cs:Nat->Nat) (k:Nat):Prop where
 kn:k<=n
 cw:∀ m,m<k->cs m<w
 piv:∀ l m,l<k->m<k->R l (cs m)=if l=m then 1 else 0
 low:∀ i m,i<n->k<=i->m<k->R i (cs m)=0
 top:∀ l j,l<k->j<w->B l j=sm k fun m=>B l (cs m)*R m j
 bot:∀ i j,i<n->k<=i->j<w->B i j=R i j+sm k fun m=>B i (cs m)*R m j
def dp(B:Nat->Nat->Rat)(cs:Nat->Nat)(k:Nat):Rat:=dt k fun c r=>B r (cs c)
section
variable {n w:Nat} {B R:Nat->Nat->Rat} {cs:Nat->Nat} {k:Nat}
def Elim.below(E:Elim n w B R cs k){i j:Nat}(hi:i<n)(hk:k<=i)(hj:j<w):dp B cs k*R i j=dt (k+1) fun c r=>B (if r<k then r else i) (if c<k then cs c else j):=by have f:(fun c r=>B (if r<k then r else i) (if c<k then cs c else j))=rc (fun c r=>B (if r<k then r else i) (cs c)) k (fun r=>B (if r<k then r else i) j)\/True:=.inr trivial;clear f;let X:Nat->Nat->Rat:=fun c r=>B (if r<k then r else i) (cs c);have g:dt (k+1) (fun c r=>B (if r<k then r else i) (if c<k then cs c else j))=dt (k+1) (rc X k fun r=>(sm k fun t=>R t j*X t r)+(if r<k then 0 else R i j)):=by{refine Aj fun c r s e=>?_;unfold rc;by_cases h:c=k;{subst h;rw[iN (bM c),iP rfl];show _=(sm c fun t=>R t j*X t r)+(if r<c then 0 else R i j);by_cases d:r<c;{rw[iP d,iP d,aY,E.top r j d hj];refine C5 fun m _=>?_;show _=_*B (if r<c then r else i) (cs m);rw[iP d,aQ]};·rw[iN d,iN d,E.bot i j hi hk hj,Rat.add_comm];congr 1;refine C5 fun m _=>?_;show _=_*B (if r<c then r else i) (cs m);rw[iN d,aQ]};·rw[iN h,iP (show c<k from o)]};rw[g,A36 _ o,B73 X o (fun t=>R t j) X];rw[K7 fun t l=>by rw[B9e (rc X k (X t)) (p:=t) (q:=k) l o fun r _=>by unfold rc;rw[iN o,iP rfl]];exact aX _];rw[B9d _ fun r e=>by unfold rc;rw[iP rfl];show(if r<k then 0 else R i j)=0;rw[iP e]];have u:dt k (rc X k fun r=>if r<k then 0 else R i j)=dp B cs k:=by{refine Aj fun c r s e=>?_;unfold rc;rw[iN o];show B (if r<k then r else i) (cs c)=_;rw[iP e]};rw[u];unfold rc;rw[iP rfl];show _=0+(if k<k then 0 else R i j)*_;rw[iN (bM k)];grind
def Elim.above(E:Elim n w B R cs k){i j:Nat}(hi:i<k)(hj:j<w):dp B cs k*R i j=dt k (rc (fun c r=>B r (cs c)) i fun r=>B r j):=by let X:Nat->Nat->Rat:=fun c r=>B r (cs c);have f:dt k (rc X i fun r=>B r j)=dt k (rc X i fun r=>sm k fun t=>R t j*X t r):=by{refine Aj fun c r l e=>?_;unfold rc;split;{show B r j=sm k fun t=>R t j*X t r;rw[E.top r j e hj];exact C5 fun m _=>aQ _ _};·rfl};show _=dt k (rc X i fun r=>B r j);rw[f,B73 X hi (fun t=>R t j) X,N6 (k:=i) hi fun t g d=>?_];{rw[A4u,aQ];rfl};·rcases Nat.lt_or_ge t i with h|h;{rw[B9e (rc X i (X t)) (p:=t) (q:=i) h hi fun r _=>by unfold rc;rw[iN o,iP rfl]];exact aX _};·rw[B9e (rc X i (X t)) (p:=i) (q:=t) o g fun r _=>by unfold rc;rw[iP rfl,iN o]];exact aX _
def Elim.whole(E:Elim n w B R cs k)(hB:∀i j,i<n->j<w->Wh (B i j)){i j:Nat}(hi:i<n)(hj:j<w):Wh (dp B cs k*R i j):=by by_cases h:i<k;{rw[E.above h hj];refine C2t fun c r d e=>?_;have:=E.kn;unfold rc;split;{exact hB r j o hj};·exact hB r _ o (E.cw c d)};·rw[E.below hi o hj];refine C2t fun c r d e=>?_;refine hB _ _ ?_ ?_;{split<;>omega};·split;{exact E.cw c (by assumption)};·exact hj
def Elim.next(E:Elim n w B R cs k){j:Nat}(hk:k<n)(hj:j<w)(hc:cs k=j):dp B cs (k+1)=dp B cs k*R k j:=by rw[E.below hk (aE _) hj];refine Aj fun c r e g=>?_;have f:(if r<k then r else k)=r:=by{split<;>omega};have d:(if c<k then cs c else j)=cs c:=by{split;{rfl};·have:c=k:=o;rw[this,hc]};rw[f,d]
def Ch(R:Nat->Nat->Rat)(k j:Nat):Nat->Nat->Rat:=fun a b=>if a=k then R k b/R k j else R a b-R a j*(R k b/R k j)
def Elim.step(E:Elim n w B R cs k){j:Nat}(hk:k<n)(hj:j<w)(hc:cs k=j)(hne:R k j≠0):Elim n w B (Ch R k j) cs (k+1):=by have f:∀m,m<k->R k (cs m)=0:=fun m q=>E.low k m hk (aE _) q;have p:R k j/R k j=1:=gz0;refine⟨o,fun m q=>?_,fun l m D q=>?_,fun i m r y q=>?_,fun l b D s=>?_,fun i b r y s=>?_⟩;{by_cases e:m=k;{rw[e,hc];exact hj};·exact E.cw m o};{unfold Ch;by_cases t:m=k;{subst t;rw[hc];by_cases d:l=m;{rw[iP d,iP d];exact p};·rw[iN d,iN d,p];grind};·have c:m<k:=o;rw[f m c];by_cases d:l=k;{subst d;rw[iP rfl,iN o];grind};·rw[iN d,E.piv l m o c];grind};{unfold Ch;rw[iN o];by_cases t:m=k;{subst t;rw[hc,p];grind};·have c:m<k:=o;rw[f m c,E.low i m r o c];grind};{rw[sm];have u:(Ch R k j) k b=R k b/R k j:=by{unfold Ch;rw[iP rfl]};have z:sm k (fun m=>B l (cs m)*Ch R k j m b)=sm k (fun m=>B l (cs m)*R m b)-sm k (fun m=>B l (cs m)*R m j)*(R k b/R k j):=by{have:(fun m=>B l (cs m)*Ch R k j m b)=fun m=>if m=k then B l (cs k)*(R k b/R k j)else B l (cs m)*R m b+(-(R k b/R k j))*(B l (cs m)*R m j):=by{funext m;unfold Ch;by_cases e:m=k;{rw[iP e,iP e,e]};·rw[iN e,iN e];grind};rw[this,C5 (g:=fun m=>B l (cs m)*R m b+(-(R k b/R k j))*(B l (cs m)*R m j)) fun m q=>by rw[iN o]];rw[Y7,J3];grind};rw[u,z,hc];by_cases d:l=k;{subst d;have t1:=E.bot l b hk (aE _) s;have A:=E.bot l j hk (aE _) hj;grind};·have t1:=E.top l b o s;have A:=E.top l j o hj;grind};·rw[sm];have u:(Ch R k j) k b=R k b/R k j:=by{unfold Ch;rw[iP rfl]};have z:sm k (fun m=>B i (cs m)*Ch R k j m b)=sm k (fun m=>B i (cs m)*R m b)-sm k (fun m=>B i (cs m)*R m j)*(R k b/R k j):=by{have:(fun m=>B i (cs m)*Ch R k j m b)=fun m=>if m=k then B i (cs k)*(R k b/R k j)else B i (cs m)*R m b+(-(R k b/R k j))*(B i (cs m)*R m j):=by{funext m;unfold Ch;by_cases e:m=k;{rw[iP e,iP e,e]};·rw[iN e,iN e];grind};rw[this,C5 (g:=fun m=>B i (cs m)*R m b+(-(R k b/R k j))*(B i (cs m)*R m j)) fun m q=>by rw[iN o]];rw[Y7,J3];grind};have C:Ch R k j i b=R i b-R i j*(R k b/R k j):=by{unfold Ch;rw[iN o]};have t1:=E.bot i b r o s;have A:=E.bot i j r o hj;rw[u,z,C,hc];grind
def xch(k l:Nat)(i:Nat):Nat:=if i=k then l else if i=l then k else i
def Elim.swap(E:Elim n w B R cs k){l:Nat}(hk:k<=l)(hl:l<n):Elim n w (fun i=>B (xch k l i)) (fun i=>R (xch k l i)) cs k:=by have g:∀i,i<k->xch k l i=i:=fun i f=>by{unfold xch;rw[iN o,iN o]};have q:∀i,i<n->k<=i->xch k l i<n/\k<=xch k l i:=fun i s r=>by{unfold xch;split<;>(try split)<;>omega};refine⟨E.kn,E.cw,fun a m e c=>?_,fun i m f d c=>?_,fun a j e p=>?_,fun i j f d p=>?_⟩;{show R (xch k l a) _=_;rw[g a e];exact E.piv a m e c};{have:=q i f d;exact E.low _ m this.1 this.2 c};{show B (xch k l a) j=sm k fun m=>B (xch k l a) (cs m)*R (xch k l m) j;rw[g a e,E.top a j e p];exact C5 fun m c=>by rw[g m c]};·have:=q i f d;show B (xch k l i) j=R (xch k l i) j+sm k fun m=>B (xch k l i) (cs m)*R (xch k l m) j;rw[E.bot _ j this.1 this.2 p];congr 1;exact C5 fun m c=>by rw[g m c]
def B9f(B:Nat->Nat->Rat)(cs:Nat->Nat){k l:Nat}(hk:k<=l):dp (fun i=>B (xch k l i)) cs k=dp B cs k:=by refine Aj fun c r _ d=>?_;show B (xch k l r) _=_;unfold xch;rw[iN o,iN o]
def Elim.start:Elim n w B B cs 0:=by refine⟨aP _,fun m c=>o,fun l m d=>o,fun i m _ _ c=>o,fun l j d=>o,fun i j _ _ _=>by rw[sm,aY]⟩
def Elim.cs_congr{cs':Nat->Nat}(E:Elim n w B R cs k)(h:∀m,m<k->cs m=cs' m):Elim n w B R cs' k:=by refine⟨E.kn,fun m c=>by rw[<- h m c];exact E.cw m c,fun l m e c=>by rw[<- h m c];exact E.piv l m e c,fun i m g f c=>by rw[<- h m c];exact E.low i m g f c,fun l j e d=>?_,fun i j g f d=>?_⟩;{rw[E.top l j e d];exact C5 fun m c=>by rw[h m c]};·rw[E.bot i j g f d];congr 1;exact C5 fun m c=>by rw[h m c]
def B5e{cs':Nat->Nat}(h:∀m,m<k->cs m=cs' m):dp B cs k=dp B cs' k:=Aj fun c r d _=>by rw[h c d]
end
end Go.Proofs.YtkfhdoblhajcbaaGreatDoor
namespace Go.Proofs.YtkfhdoblhajcbaaGreatDoor
set_option maxRecDepth 20000
def fnd(p:Nat->Bool):Nat->Nat->Nat
 |0,i=>i
 |f+1,i=>bif p i then i else fnd p f (i+1)
def A7f(p:Nat->Bool):∀f i,i<=fnd p f i/\fnd p f i<=i+f:=by
 intro f
 induction f with
 |zero=>intro i;simp[fnd]
 |succ f ih=>
  intro i;unfold fnd;grind
def A08(p:Nat->Bool):∀f i,fnd p f i<i+f->p (fnd p f i)=true:=by
 intro f
 induction f with
 |zero=>intro i h;simp[fnd]at h
 |succ f ih=>
  intro i h;unfold fnd at h ⊢;grind
def Sm(p:Nat->Bool):∀f i j,i<=j->j<fnd p f i->p j=false:=by
 intro f
 induction f with
 |zero=>intro i j d c;simp[fnd]at c;omega
 |succ f ih=>
  intro i j d c;unfold fnd at c;grind
def A2v{p q:Nat->Bool}:∀f i,(∀j,i<=j->j<i+f->p j=q j)->fnd p f i=fnd q f i:=by
 intro f
 induction f with
 |zero=>intros;rfl
 |succ f ih=>
  intro i h;unfold fnd;grind
def Ya(p:Nat->Bool){f i k:Nat}(h1:i<=k)(h2:k<=i+f)(h3:∀j,i<=j->j<k->p j=false)(h4:k<i+f->p k=true):fnd p f i=k:=by have a:=A7f p f i;rcases Nat.lt_trichotomy (fnd p f i) k with h|h|h;{have:=A08 p f i o;grind};{exact h};·have:=Sm p f i k h1 h;grind
structure ES where
 R:Nat->Nat->Rat
 cs:List Nat
 det:Rat
def elimE(R:Nat->Nat->Rat)(k j:Nat):Nat->Nat->Rat:=fun a b=>if a=k then R k b/R k j else if R a j=0\/b<j then R a b else R a b-R a j*(R k b/R k j)
def Hj(n c:Nat)(s:ES):Nat:=fnd (fun i=>decide (s.R i c≠0)) (n-s.cs.length) s.cs.length
def Al(n c:Nat)(s:ES):ES:=
 if s.cs.length<n then
  if Hj n c s<n then
   { R:=elimE (fun i=>s.R (xch s.cs.length (Hj n c s) i)) s.cs.length c
     cs:=s.cs++[c]
     det:=(if Hj n c s=s.cs.length then s.det else-s.det)*s.R (Hj n c s) c }
  else { s with det:=0 }
 else s
def Pd(n:Nat)(s:ES):Nat->ES
 |0=>s
 |c+1=>Al n c (Pd n s c)
structure PS where
 M:Nat->Nat->Int
 S:Nat->Rat
 cs:List Nat
 last:Int
 sgn:Int
def clr(M:Nat->Nat->Int)(r c:Nat)(d:Int):Nat->Nat->Int:=fun a b=>if a=r then M r b else(M r c*M a b-M a c*M r b).tdiv d
def Tj(n c:Nat)(s:PS):Nat:=fnd (fun i=>decide (s.M i c≠0)) (n-s.cs.length) s.cs.length
def Ec(n c:Nat)(s:PS):PS:=
 if Tj n c s<n then
  { M:=clr (fun i=>s.M (xch s.cs.length (Tj n c s) i)) s.cs.length c s.last
    S:=fun i=>s.S (xch s.cs.length (Tj n c s) i)
    cs:=s.cs++[c]
    last:=s.M (Tj n c s) c
    sgn:=if Tj n c s=s.cs.length then s.sgn else-s.sgn }
 else s
def Ia(n:Nat)(s:PS):Nat->PS
 |0=>s
 |c+1=>Ec n c (Ia n s c)
def pr:Nat->(Nat->Rat)->Rat
 |0,_=>1
 |n+1,f=>pr n f*f n
def B4m{n:Nat}{f g:Nat->Rat}(h:∀i,i<n->f i=g i):pr n f=pr n g:=by
 induction n with
 |zero=>rfl
 |succ n ih=>rw[pr,pr,ih (fun i c=>h i o),h n o]
def Jh(k l:Nat):xch k l k=l:=by unfold xch;grind
def He{k l i n:Nat}(hk:k<n)(hl:l<n)(hi:i<n):xch k l i<n:=by unfold xch;grind
def A9u{k l i:Nat}(hkl:k<=l)(hi:k<=i):k<=xch k l i:=by unfold xch;grind
def A18{k l i:Nat}(hkl:k<=l)(hi:i<k):xch k l i=i:=by unfold xch;grind
def A4b{x d z:Int}(hd:d≠0)(h:x=d*z):x.tdiv d=z:=by simp_all
structure ERel (n w c:Nat) (A:Nat->Nat->Rat) (s:ES) (t:PS):Prop where
 cs:s.cs=t.cs
 elim:∃ B,(∀ i j,i<n->j<w->Wh (B i j))/\Elim n w B (fun i j=>if i<s.cs.length then s.R i j else t.S i*s.R i j) (fun m=>s.cs.getD m 0) s.cs.length/\(t.last:Rat)=dp B (fun m=>s.cs.getD m 0) s.cs.length
 last:t.last≠0
 val:∀ i j,i<n->j<w->(t.M i j:Rat)=t.last*(if i<s.cs.length then s.R i j else t.S i*s.R i j)
 scale:∀ i,i<n->t.S i≠0
 zero:∀ i j,i<n->s.cs.length<=i->j<c->s.R i j=0
 asc:s.cs.length<=c
 det:s.cs.length=c->s.det*pr s.cs.length t.S=t.sgn*t.last
 miss:s.cs.length<c->s.cs.length<n->s.det=0
 sgn:t.sgn=1\/t.sgn= -1
def S3{z:Int}(h:z≠0):(z:Rat)≠0:=by simp_all
def ERel.start{n w:Nat}{A:Nat->Nat->Rat}{M:Nat->Nat->Int}{S:Nat->Rat}(h:∀i j,i<n->j<w->(M i j:Rat)=S i*A i j)(hS:∀i,i<n->S i≠0):ERel n w 0 A ⟨A,[],1⟩ ⟨M,S,[],1,1⟩:=by refine⟨rfl,⟨fun i j=>S i*A i j,fun i j d c=>⟨M i j,(h i j d c).symm⟩,?_,rfl⟩,(by decide:(1:Int)≠0),fun i j d c=>?_,hS,fun i j _ _ c=>o,aE _,fun _=>?_,fun h=>by simp at h,.inl rfl⟩;{show Elim n w _ (fun i j=>if i<([]:List Nat).length then A i j else S i*A i j) _ 0;exact Elim.start};{grind};rfl
def Og(l:List Nat)(c:Nat):∀m,m<l.length->(l++[c]).getD m 0=l.getD m 0:=by grind
def A2s(l:List Nat)(c:Nat):(l++[c]).getD l.length 0=c:=by grind
def ERel.row{n w c:Nat}{A:Nat->Nat->Rat}{s:ES}{t:PS}(h:ERel n w c A s t)(hc:c<w):Tj n c t=Hj n c s:=by unfold Tj Hj;rw[<- h.cs];refine A2v _ _ fun j i f=>?_;have d:=h.val j c o hc;have k:=S3 h.last;have g:=h.scale j o;refine decide_eq_decide.2 (not_congr ⟨fun e=>?_,fun e=>?_⟩);{rw[e]at d;grind};simp_all
def ERel.step{n w c:Nat}{A:Nat->Nat->Rat}{s:ES}{t:PS}(h:ERel n w c A s t)(hc:c<w):ERel n w (c+1) A (Al n c s) (Ec n c t):=by have V:=h.row hc;have d:=A7f (fun i=>decide (s.R i c≠0)) (n-s.cs.length) s.cs.length;have L:=Sm (fun i=>decide (s.R i c≠0)) (n-s.cs.length) s.cs.length;have Q:=A08 (fun i=>decide (s.R i c≠0)) (n-s.cs.length) s.cs.length;have hR:fnd (fun i=>decide (s.R i c≠0)) (n-s.cs.length) s.cs.length=Hj n c s:=rfl;rw[hR]at d L Q;obtain⟨B,hB,E,hD⟩:=h.elim;unfold Al Ec;rw[V];by_cases y:Hj n c s<n;{have p:s.cs.length<n:=o;rw[iP p,iP y,iP y,<- h.cs];generalize hr:Hj n c s=r at *;generalize hl:s.cs.length=k at *;have E1:=E.swap (l:=r) d.1 y;have G:∀m,m<k->s.cs.getD m 0=(s.cs++[c]).getD m 0:=fun m hm=>(Og s.cs c m o).symm;have E2:=E1.cs_congr G;have C:(s.cs++[c]).getD k 0=c:=gz0;have q:(s.cs++[c]).length=k+1:=gz0;have xk:xch k r k=r:=Jh k r;have aj:=h.scale r y;have ac:t.S r*s.R r c≠0:=by{grind};have E3:=E2.step (j:=c) p hc C gz0;have ag:=E2.next (j:=c) p hc C;have ai:dp (fun i=>B (xch k r i)) (fun m=>(s.cs++[c]).getD m 0) k=(t.last:Rat):=by{rw[hD,<- B5e G,B9f B _ d.1]};have H:(t.M r c:Rat)=t.last*(t.S r*s.R r c):=by{have:=h.val r c y hc;grind};have T:dp (fun i=>B (xch k r i)) (fun m=>(s.cs++[c]).getD m 0) (k+1)=(t.M r c:Rat):=by{grind};have ad:=S3 h.last;have O:t.M r c≠0:=by{intro e;rw[e]at H;grind};have hz:∀b,b<c->s.R r b=0:=fun b hb=>h.zero r b y o hb;have hQ:∀i j,(if i<k+1 then elimE (fun i=>s.R (xch k r i)) k c i j else t.S (xch k r i)*elimE (fun i=>s.R (xch k r i)) k c i j)=Ch (fun i j=>if xch k r i<k then s.R (xch k r i) j else t.S (xch k r i)*s.R (xch k r i) j) k c i j:=by{intro i j;unfold elimE Ch;by_cases e:i=k;{grind};·simp only[iN e,xk,iN (show ¬r<k from o)];by_cases f:i<k;{rw[iP (show i<k+1 from o),A18 d.1 f,iP f,iP f];grind};·have X:¬xch k r i<k:=by{have:=A9u (i:=i) d.1 o;omega};grind};have aa:(fun i j=>if i<k+1 then elimE (fun i=>s.R (xch k r i)) k c i j else t.S (xch k r i)*elimE (fun i=>s.R (xch k r i)) k c i j)=Ch (fun i j=>if xch k r i<k then s.R (xch k r i) j else t.S (xch k r i)*s.R (xch k r i) j) k c:=by{grind};have u:∀i,i<n->xch k r i<n:=fun i f=>He p y f;refine⟨rfl,⟨fun i=>B (xch k r i),fun i j f F=>hB _ j (u i f) F,?_,?_⟩,O,fun i j f F=>?_,fun i f=>h.scale _ (u i f),fun i j f N F=>?_,?_,fun he=>?_,fun he _=>?_,?_⟩;{show Elim n w _ (fun i j=>if i<(s.cs++[c]).length then elimE (fun i=>s.R (xch k r i)) k c i j else t.S (xch k r i)*elimE (fun i=>s.R (xch k r i)) k c i j) _ (s.cs++[c]).length;rw[q,aa];exact E3};{grind};{show(clr (fun i=>t.M (xch k r i)) k c t.last i j:Rat)=(t.M r c:Rat)*(if i<(s.cs++[c]).length then elimE (fun i=>s.R (xch k r i)) k c i j else t.S (xch k r i)*elimE (fun i=>s.R (xch k r i)) k c i j);rw[q,hQ i j];unfold clr;by_cases e:i=k;{subst e;rw[iP rfl];show(t.M (xch i r i) j:Rat)=_;unfold Ch;have:=h.val r j y F;grind};·rw[iN e];show(((t.M (xch k r k) c*t.M (xch k r i) j-t.M (xch k r i) c*t.M (xch k r k) j).tdiv t.last:Int):Rat)=_;rw[xk];have hw:=E3.whole (fun i j f F=>hB _ j (u i f) F) f F;rw[T]at hw;obtain⟨z,W⟩:=hw;have v1:=h.val (xch k r i) j (u i f) F;have v2:=h.val (xch k r i) c (u i f) hc;have v3:=h.val r j y F;have X:t.M r c*t.M (xch k r i) j-t.M (xch k r i) c*t.M r j=t.last*z:=by{have:((t.M r c*t.M (xch k r i) j-t.M (xch k r i) c*t.M r j:Int):Rat)=((t.last*z:Int):Rat):=by{rw[Rat.intCast_sub,aS,aS,aS,<- W,v1,v2,v3,H];unfold Ch;grind};exact_mod_cast this};rw[A4b h.last X,<- W]};{show elimE (fun i=>s.R (xch k r i)) k c i j=0;have ae:k+1<=i:=by{grind};have af:=A9u (i:=i) d.1 (show k<=i from o);unfold elimE;rw[iN o];by_cases e:j=c;{grind};·rw[iP (.inr o)];exact h.zero _ j (u i f) o o};{show(s.cs++[c]).length<=c+1;have:=h.asc;omega};{show(if r=k then s.det else -s.det)*s.R r c*pr (s.cs++[c]).length (fun i=>t.S (xch k r i))=((if r=k then t.sgn else -t.sgn:Int):Rat)*(t.M r c:Rat);have ah:k=c:=by{grind};have hd:=h.det o;rw[q,pr,xk,B4m (g:=t.S) fun i f=>by rw[A18 d.1 f],H];by_cases e:r=k;{grind};·rw[iN e,iN e,Rat.intCast_neg];grind};{show(if r=k then s.det else -s.det)*s.R r c=0;have:(s.cs++[c]).length<c+1:=he;have hd:=h.miss o o;grind};·show(if r=k then t.sgn else -t.sgn)=1\/(if r=k then t.sgn else -t.sgn)= -1;have:=h.sgn;omega};·rw[iN y,iN y];have D:∀i j,i<n->s.cs.length<=i->j<c+1->s.R i j=0:=by{intro i j f N F;by_cases e:j=c;{grind};·exact h.zero i j f N o};by_cases p:s.cs.length<n;{rw[iP p];exact⟨h.cs,⟨B,hB,E,hD⟩,h.last,h.val,h.scale,D,Nat.le_succ_of_le h.asc,fun he=>by have:=h.asc;grind,fun _ _=>rfl,h.sgn⟩};·rw[iN p];exact⟨h.cs,⟨B,hB,E,hD⟩,h.last,h.val,h.scale,D,Nat.le_succ_of_le h.asc,fun he=>by have:=h.asc;omega,fun _ X=>absurd X p,h.sgn⟩
def ERel.run{n w:Nat}{A:Nat->Nat->Rat}{s:ES}{t:PS}(h:ERel n w 0 A s t):∀c,c<=w->ERel n w c A (Pd n s c) (Ia n t c):=by
 intro c
 induction c with
 |zero=>exact fun _=>h
 |succ c ih=>exact fun d=>(ih o).step o
end Go.Proofs.YtkfhdoblhajcbaaGreatDoor
namespace Go.Proofs.YtkfhdoblhajcbaaGreatDoor
set_option maxRecDepth 20000
def Sz.elimE{n w k j m:Nat}{R:Nat->Nat->Rat}(hR:∀a b,a<n->b<w->Sz m (R a b))(hk:k<n)(hj:j<w)(hm:1<=m){a b:Nat}(ha:a<n)(hb:b<w):Sz (7*m) (elimE R k j a b):=by have c:Sz (m+m) (R k b/R k j):=(hR k b hk hb).div (hR k j hk hj) hm;unfold Go.Proofs.YtkfhdoblhajcbaaGreatDoor.elimE;split;{exact c.mono o};·split;{exact(hR a b ha hb).mono o};·exact((hR a b ha hb).sub ((hR a j ha hj).mul c)).mono o
structure SzE (n w m:Nat) (s:ES):Prop where
 R:∀ a b,a<n->b<w->Sz (7^s.cs.length*m) (s.R a b)
 det:Sz (7^s.cs.length*m) s.det
 len:s.cs.length<=n
def Nq(k m:Nat)(hm:1<=m):1<=7^k*m:=by have:0<7^k:=Nat.pow_pos dc;exact Nat.mul_pos this hm
def SzE.step{n w m c:Nat}{s:ES}(h:SzE n w m s)(hm:1<=m)(hc:c<w):SzE n w m (Al n c s):=by have j:=Nq s.cs.length m hm;unfold Al;by_cases f:s.cs.length<n;{rw[iP f];by_cases d:Hj n c s<n;{rw[iP d];have e:(s.cs++[c]).length=s.cs.length+1:=by{simp};have k:7^(s.cs.length+1)*m=7*(7^s.cs.length*m):=gz0;refine⟨fun a b g i=>?_,?_,?_⟩;{show Sz (7^(s.cs++[c]).length*m) _;rw[e,k];exact Sz.elimE (n:=n) (w:=w) (fun a b g i=>h.R _ b (He f d g) i) f hc j g i};{show Sz (7^(s.cs++[c]).length*m) ((if Hj n c s=s.cs.length then s.det else -s.det)*s.R (Hj n c s) c);rw[e,k];have:Sz (7^s.cs.length*m) (if Hj n c s=s.cs.length then s.det else -s.det):=by{split;{exact h.det};·exact h.det.neg};exact(this.mul (h.R _ c d hc)).mono o};grind};·rw[iN d];exact⟨h.R,Sz.zero j,h.len⟩};grind
def SzE.run{n w m:Nat}{s:ES}(h:SzE n w m s)(hm:1<=m):∀c,c<=w->SzE n w m (Pd n s c):=by
 intro c
 induction c with
 |zero=>exact fun _=>h
 |succ c ih=>exact fun d=>(ih o).step hm o
def B5u{m:Nat}{x d:Int}(h:ZB m x):ZB m (x.tdiv d):=by refine h.le ?_;rw[Int.natAbs_tdiv];exact cI _ _
def ZB.clr{n w k j m:Nat}{M:Nat->Nat->Int}{d:Int}(hM:∀a b,a<n->b<w->ZB m (M a b))(hk:k<n)(hj:j<w){a b:Nat}(ha:a<n)(hb:b<w):ZB (2*m+1) (clr M k j d a b):=by unfold Go.Proofs.YtkfhdoblhajcbaaGreatDoor.clr;split;{exact(hM k b hk hb).mono o};·refine B5u ?_;have c:=(hM k j hk hj).mul (hM a b ha hb);have e:=(hM a j ha hj).mul (hM k b hk hb);exact(c.sub e).mono o
def A4l(n c:Nat)(s:PS)(h:s.cs.length<=n):s.cs.length<=Tj n c s/\Tj n c s<=n:=by have:=A7f (fun i=>decide (s.M i c≠0)) (n-s.cs.length) s.cs.length;unfold Tj;omega
structure ZbP (n w m l:Nat) (s:PS):Prop where
 M:∀ a b,a<n->b<w->ZB (3^s.cs.length*m) (s.M a b)
 last:ZB (3^s.cs.length*m) s.last
 S:∀ a,a<n->Sz l (s.S a)
 len:s.cs.length<=n
def A6x(k m:Nat)(hm:1<=m):1<=3^k*m:=by have:0<3^k:=Nat.pow_pos dc;exact Nat.mul_pos this hm
def ZbP.step{n w m l c:Nat}{s:PS}(h:ZbP n w m l s)(hm:1<=m)(hc:c<w):ZbP n w m l (Ec n c s):=by have k:=A4l n c s h.len;have p:=A6x s.cs.length m hm;unfold Ec;by_cases f:Tj n c s<n;{rw[iP f];have g:s.cs.length<n:=o;have e:(s.cs++[c]).length=s.cs.length+1:=by{simp};have j:3^(s.cs.length+1)*m=3*(3^s.cs.length*m):=gz0;refine⟨fun a b d i=>?_,?_,fun a d=>h.S _ (He g f d),?_⟩;{show ZB (3^(s.cs++[c]).length*m) _;rw[e,j];exact(ZB.clr (n:=n) (w:=w) (fun a b d i=>h.M _ b (He g f d) i) g hc d i).mono o};{show ZB (3^(s.cs++[c]).length*m) (s.M (Tj n c s) c);rw[e,j];exact(h.M _ c f hc).mono o};grind};grind
def ZbP.run{n w m l:Nat}{s:PS}(h:ZbP n w m l s)(hm:1<=m):∀c,c<=w->ZbP n w m l (Ia n s c):=by
 intro c
 induction c with
 |zero=>exact fun _=>h
 |succ c ih=>exact fun d=>(ih o).step hm o
structure Asc (l:List Nat) (c:Nat):Prop where
 lt:∀ x∈l,x<c
 asc:l.Pairwise (· < ·)
def Asc.snoc{l:List Nat}{c:Nat}(h:Asc l c):Asc (l++[c]) (c+1):=by refine⟨fun x d=>?_,?_⟩;{rcases List.mem_append.1 d with d|d;{have:=h.lt x d;omega};grind};·rw[List.pairwise_append];refine⟨h.asc,by simp,fun a f b e=>?_⟩;simp at e;subst e;exact h.lt a f
def Asc.mono{l:List Nat}{c d:Nat}(h:Asc l c)(hcd:c<=d):Asc l d:=⟨fun x e=>Nat.lt_of_lt_of_le (h.lt x e) hcd,h.asc⟩
def Dl(n:Nat)(s:ES)(h:s.cs=[]):∀c,Asc (Pd n s c).cs c:=by
 intro c
 induction c with
 |zero=>show Asc s.cs 0;rw[h];exact⟨by simp,.nil⟩
 |succ c ih=>
  show Asc (Al n c (Pd n s c)).cs (c+1);unfold Al;split
  ·split;·exact ih.snoc
   ·exact ih.mono o
  ·exact ih.mono o
def O8(z:Int)(l:List aN):iAt (I z::l) 0=z:=rfl
def B07:prog.cellsOf 244=4/\(prog.info? 244).isSome=true:=Ge
section
variable {α β:Type} [E:Enc α] {R:aD->α->β->Prop}
def OwnK(R:aD->α->β->Prop)(h h':aD)(b n k:Nat)(f:Nat->β):Prop:=∃g o xs,h.le g/\Sep h' g o/\RowX o b xs/\xs.length=n/\Row R g xs k f
def OwnK.own{h h':aD}{b n:Nat}{f:Nat->β}(w:OwnK R h h' b n n f):Own R h h' b n f:=⟨w⟩
def OwnK.le{h h':aD}{b n k:Nat}{f:Nat->β}(w:OwnK R h h' b n k f):h.le h':=by obtain⟨g,o,c,l,s,_⟩:=w;exact B0 l s.le
def OwnK.zero{h:aD}{b n:Nat}{f:Nat->β}{e:aK}{z:α}(hb:h b=none):OwnK R h (B77 e h b (bW n z)) b n 0 f:=⟨h,Y9.put b (.cells ((bW n z).flatMap enc).toArray e),bW n z,B7 _,Z7 hb,RowX.mk,by simp,Row.nil⟩
def OwnK.store(m:Mon R){P:aV}{t:aK}(one:P.cellsOf t=E.default.size/\(P.info? t).isSome=true){h h' g g' o:aD}{b n k:Nat}{f:Nat->β}{xs:List α}(lg:h.le g)(lg':g.le g')(s:Sep h' g' o)(rb:RowX o b xs)(hn:xs.length=n)(r:Row R g xs k f)(hk:k<n){v:aN}{y:α}(hv:v.cells=(enc y).toArray)(hy:R g' y (f k)){K:Unit->aD->Prop} (x:∀h2,OwnK R h h2 b n (k+1) f->K () h2):wpH P (aH t (.pointer (some (aC ⟨b,0,none⟩ (k*E.default.size)))) v) K h':=by refine S6 one hv s rb oo ?_;intro h2 i j e d c;exact x h2 ⟨g',i,_,B0 lg lg',d,c,gz0,(r.mono m lg').set oo hy⟩
end
def J6:QV:=⟨false,none,0,0,false,none,0,0⟩
section
variable {h:aD} {K:VP} {A:Option aF} {n c m:Nat} {ls:Nat->List UInt8} {f:Nat->Rat} {a w:QV} {q:Rat}
def Do(gl:Gl h)(r:RowV SSr h A n ls)(hn:n<=1000000)(hl:LL n ls) (hK1:(∀i,i<n->IsNum (ls i))->∀b h',Own RQr h h' b n (fun i=>rv (ls i))->K (.tuple #[.slice (some ⟨b,0,none⟩) n n,.bool true]) h') (hK0:¬(∀i,i<n->IsNum (ls i))->∀h',h.le h'->K (.tuple #[.slice none 0 0,.bool false]) h'):aJ prog 153 #[.slice A n c] h K:=by refine(fnk func153 [(3,[14],[],[I 0])] (own:=[7])) ?_;refine I3 A0v (zx:=J6) rfl oo oo oo oo ?_;intro b N;refine⟨_,_,_,rfl,fun L u=>∃k:Nat,k<=n/\L=[I k]/\(∀i,i<k->IsNum (ls i))/\OwnK RQr h u b n k (fun i=>rv (ls i)),fun L _=>n-(iAt L 0).toNat,⟨0,oo,rfl,fun i S=>oo,OwnK.zero N⟩,?_⟩;rintro t u ⟨k,V,W,l,g,o,Q,f,s,E,F,D⟩;obtain rfl:t=(k:Int):=gz0;refine C1 (fun M=>?_) (fun G=>?_);{have d:k<n:=oo;obtain⟨a,rfl,T⟩:=(r.mono E9 (B0 f s.le)).sat d;refine⟨a,rfl,oo,oo,_,T,?_⟩;refine s.call (Pn (gl.mono f).tz (hl k d) ?_ ?_);{intro q e w C z H B p;refine⟨_,_,_,_,_,_,_,_,_,rfl,_,rfl,oo,oo,?_⟩;refine OwnK.store H1 B07 (y:=w) f z p E F D d rfl (by show RQ C w (rv (ls k));rw[e,H2];exact H) ?_;intro X R;rw[wiS k oo];refine⟨⟨k+1,oo,rfl,fun i S=>?_,R⟩,?_⟩;{by_cases O:i=k;{subst O;exact⟨q,e⟩};grind};·simp only[O8];omega};·intro m w C z _ B p;exact⟨_,_,_,_,_,_,_,_,_,rfl,hK0 (fun j=>m (j k d)) B (B0 f (B0 z p.le))⟩};·have:k=n:=oo;subst this;exact hK1 l b u ⟨g,o,Q,f,s,E,F,D⟩
def Y6(gl:Gl h)(r:RowV RQr h A n f)(hn:n<=1000000)(hs:∀i,i<n->Sz m (f i))(hm:m<=40000000) (hK:∀b h',Own SSr h h' b n (fun i=>F3 (f i))->K (.slice (some ⟨b,0,none⟩) n n) h'):aJ prog 155 #[.slice A n c] h K:=by refine(fnk func155 [(3,[11],[],[I 0])] (own:=[5])) ?_;refine I3 I6 (zx:=([]:List UInt8)) rfl oo oo oo oo ?_;intro b E;refine⟨_,_,_,rfl,fun L j=>∃k:Nat,k<=n/\L=[I k]/\OwnK SSr h j b n k (fun i=>F3 (f i)),fun L _=>n-(iAt L 0).toNat,⟨0,oo,rfl,OwnK.zero E⟩,?_⟩;rintro t j ⟨k,Q,R,g,o,M,e,s,p,q,l⟩;obtain rfl:t=(k:Int):=gz0;refine C1 (fun D=>?_) (fun u=>?_);{have d:k<n:=oo;obtain⟨a,w,rfl,B,H,G,z,C⟩:=(r.mono H1 e).qat d;refine⟨_,rfl,oo,oo,_,_,_,_,_,_,_,_,C0 s.le H,C0 s.le G,C0 s.le z,C0 s.le C,?_⟩;refine s.call (Dm (gl.mono e).p10 B (hs k d) hm ?_);intro O F;refine⟨_,rfl,_,rfl,oo,oo,?_⟩;refine OwnK.store E9 N5 (y:=F3 (f k)) e (B7 _) F p q l d rfl rfl ?_;intro S N;rw[wiS k oo];exact⟨⟨k+1,oo,rfl,N⟩,by simp only[O8];omega⟩};·have:k=n:=oo;subst this;exact hK b j ⟨g,o,M,e,s,p,q,l⟩
def Y5(r:RowV NQr h A n f)(hn:n<=1000000)(hs:∀i,i<n->Sz m (f i))(hm:m<=1000000000) (hK:∀b h',Own SSr h h' b n (fun i=>F3 (f i))->K (.slice (some ⟨b,0,none⟩) n n) h'):aJ prog 11 #[.slice A n c] h K:=by refine(fnk func11 [(3,[4],[],[I 0])]) ?_;refine I3 I6 (zx:=([]:List UInt8)) rfl oo oo oo oo ?_;intro b E;refine⟨_,_,_,rfl,fun L j=>∃k:Nat,k<=n/\L=[I k]/\OwnK SSr h j b n k (fun i=>F3 (f i)),fun L _=>n-(iAt L 0).toNat,⟨0,oo,rfl,OwnK.zero E⟩,?_⟩;rintro t j ⟨k,Q,R,g,o,M,e,s,p,q,l⟩;obtain rfl:t=(k:Int):=gz0;refine C1 (fun D=>?_) (fun u=>?_);{have d:k<n:=oo;obtain⟨a,w,rfl,B,H,G,z,C⟩:=(r.mono F0 e).qat d;refine⟨_,rfl,oo,oo,_,_,_,_,_,_,_,_,C0 s.le H,C0 s.le G,C0 s.le z,C0 s.le C,?_⟩;refine s.call (B05 B (hs k d) hm ?_);intro O F;refine⟨_,rfl,_,rfl,oo,oo,?_⟩;refine OwnK.store E9 N5 (y:=F3 (f k)) e (B7 _) F p q l d rfl rfl ?_;intro S N;rw[wiS k oo];exact⟨⟨k+1,oo,rfl,N⟩,by simp only[O8];omega⟩};·have:k=n:=oo;subst this;exact hK b j ⟨g,o,M,e,s,p,q,l⟩
def Di(f:Nat->Rat):Nat->Nat
 |0=>1
 |n+1=>Nat.lcm (Di f n) (f n).den
def A01(f:Nat->Rat):∀n,0<Di f n:=by
 intro n
 induction n with
 |zero=>exact Nat.one_pos
 |succ n ih=>exact Nat.lcm_pos ih (f n).den_pos
def A02(f:Nat->Rat):∀n i,i<n->(f i).den∣Di f n:=by
 intro n
 induction n with
 |zero=>omega
 |succ n ih=>
  intro i c;by_cases e:i=n;·subst e;exact Nat.dvd_lcm_right _ _
  ·exact Nat.dvd_trans (ih i o) (Nat.dvd_lcm_left _ _)
def ZB.lcm{k j:Nat}{x y:Nat}(hx:ZB k (x:Int))(hy:ZB j (y:Int)):ZB (k+j) ((Nat.lcm x y:Nat):Int):=by have:=hx.mul hy;refine Nat.lt_of_le_of_lt ?_ this;exact cI _ _
def Lk{f:Nat->Rat}{m:Nat}:∀n,(∀i,i<n->Sz m (f i))->ZB (1+n*m) (Di f n:Int):=by
 intro n
 induction n with
 |zero=>intro _;exact ZB.one o
 |succ n ih=>
  intro h;have:=(ih fun i c=>h i o).lcm (h n o).den;exact this.mono gz0
def Eo(gl:Gl h)(r:RowV RQr h A n f)(hn:n<=1000000)(hs:∀i,i<n->Sz m (f i))(hm:1+n*m+m<=6400000000) (hK:∀s A' n' c' h',h.le h'->ZI h' s A' n' c' (Di f n:Int)->K (.agg #[.bool s,.slice A' n' c']) h'):aJ prog 199 #[.slice A n c] h K:=by refine(fnk func199 [(3,[9],[(3,2)],[I 0,.bool false,.slice none 0 0])] (own:=[2,3,5])) ?_;refine Eu o o ?_;intro s1 A1 n1 c1 D l1 i1;refine⟨_,_,_,_,rfl,fun L z=>∃(k:Nat) (s:Bool) (B:Option aF) (q u:Nat),k<=n/\L=[I k,.bool s,.slice B q u]/\h.le z/\ZI z s B q u (Di f k:Int),fun L _=>n-(iAt L 0).toNat,⟨0,_,_,_,_,o,rfl,l1,i1⟩,?_⟩;rintro t s B q u z ⟨k,E,B',p,j,hk,X,l,i⟩;obtain⟨rfl,rfl,rfl,rfl,rfl⟩:=X;have M:C4 ((k:Int)+1)=((k+1:Nat):Int):=by{rw[C2]<;>omega};refine C1 (fun S=>?_) (fun O=>?_);{have y:k<n:=o;obtain⟨a,w,rfl,G,d0,V,Q,R⟩:=(r.mono H1 l).qat y;have g:1+k*m+m<=6400000000:=by{have:k*m<=n*m:=aG _ o;omega};have T:=(Lk k fun i hi=>hs i o).mono (show 1+k*m<=1+k*m+m from o);have N:=(hs k y).den.mono (show m<=1+k*m+m from o);refine⟨_,rfl,o,o,_,_,_,_,_,_,_,_,d0,V,Q,R,?_⟩;refine G2 G.den ⟨_,rfl,?_⟩;have C:((if(f k).den=1 then 0 else((f k).den:Int))=0)↔(f k).den=1:=by{have:=(f k).den_pos;omega};have same:Di f (k+1)=Di f k->(∃(k':Nat) (E:Bool) (B':Option aF) (p j:Nat),k'<=n/\[I (C4 ((k:Int)+1)),.bool s,.slice B q u]=[I k',.bool E,.slice B' p j]/\h.le z/\ZI z E B' p j (Di f k':Int))/\n-(iAt [I (C4 ((k:Int)+1)),.bool s,.slice B q u] 0).toNat<n-(iAt [I (k:Int),.bool s,.slice B q u] 0).toNat:=by{intro e;rw[M];exact⟨⟨k+1,_,_,_,_,o,rfl,l,gz0⟩,by simp only[O8];omega⟩};refine Br.not (C1 (fun D=>?_) (fun D=>?_));{have F:=C.1 D;exact same (by rw[Di,F];grind)};·have F:(if(f k).den=1 then 0 else((f k).den:Int))=((f k).den:Int):=iN fun e=>D (C.2 e);have d:=G.den;rw[F]at d;refine A3z d i N g ⟨_,rfl,?_⟩;refine Br.not (C1 (fun H=>?_) (fun H=>?_));{have W:(f k).den=Di f k:=by{exact_mod_cast H};exact same (by rw[Di,W];grind)};·refine A9r (gl.mono l).tz i d T N g ?_;intro A' n' c' h' l' i';refine⟨_,_,_,_,rfl,?_⟩;rw[M];refine⟨⟨k+1,_,_,_,_,o,rfl,B0 l l',?_⟩,by simp only[O8];omega⟩;assumption};grind
def scl(q:Rat)(d:Int):Int:=q.num*d.tdiv q.den
def B8q(q:Rat):q*(q.den:Rat)=(q.num:Rat):=by have h:=Rat.num_divInt_den q;rw[bJ]at h;have c:((q.den:Int):Rat)≠0:=S3 (den_ne q);have e:((q.den:Int):Rat)=(q.den:Rat):=rfl;grind
def B0g{q:Rat}{d:Int}(h:(q.den:Int)∣d):(scl q d:Rat)=q*d:=by obtain⟨e,rfl⟩:=h;unfold scl;rw[Int.mul_tdiv_cancel_left _ (den_ne q),aS,aS];have c:q*(q.den:Rat)=(q.num:Rat):=B8q q;have f:(((q.den:Nat):Int):Rat)=(q.den:Rat):=rfl;grind
def B0f{q:Rat}{d:Int}{k:Nat}(hq:Sz m q)(hd:ZB k d):ZB (m+k) (scl q d):=hq.num.mul hd.tdiv
def Ku{s:Bool}{B:Option aF}{bn bc:Nat}{d:Int}(i:RQ h w q)(j:ZI h s B bn bc d)(hq:Sz m q)(hd:ZB m d)(hm:m<=6400000000) (hK:∀s A' n' c' h',h.le h'->ZI h' s A' n' c' (scl q d)->K (.agg #[.bool s,.slice A' n' c']) h'):aJ prog 200 #[w.v,.agg #[.bool s,.slice B bn bc]] h K:=by refine(fnk func200 (own:=[2,3,4])) ?_;refine G2 i.den ⟨_,rfl,?_⟩;have g:((if q.den=1 then 0 else(q.den:Int))=0)↔q.den=1:=by{have:=q.den_pos;omega};refine C1 (fun k=>?_) (fun k=>?_);{refine Q9 i.num j hq.num hd hm ?_;intro u A' n' c' h' r D;refine⟨_,_,_,_,rfl,hK _ _ _ _ _ r ?_⟩;have:scl q d=q.num*d:=by{unfold scl;simp_all};grind};·have p:(if q.den=1 then 0 else(q.den:Int))=(q.den:Int):=iN fun e=>k (g.2 e);have c:=i.den;rw[p]at c;refine T1 j c hd hq.den hm (den_ne q) ?_;intro u A1 C c1 y f n;refine⟨_,_,_,_,rfl,f,?_⟩;refine Q9 (i.num.mono f) n hq.num hd.tdiv hm ?_;intro z A2 E c2 A l t;exact⟨_,_,_,_,rfl,l,hK _ _ _ _ _ (B0 f l) t⟩
end
instance:Enc Int:=⟨⟨fun z=>[I z],1,fun _=>rfl,fun z v hv=>by rw [List.mem_singleton.1 hv];rfl⟩⟩
abbrev IIr:aD->Int->Int->Prop:=fun _ w z=>w=z
section
variable {α:Type} [E:Enc α]
def OwnSl(o:aD)(e:aK)(A:Option aF)(c:Nat)(xs:List α):Prop:=xs.length<=c/\((c=0/\A=none)\/∃b arr,A=some ⟨b,0,none⟩/\o b=some (.cells (bD arr) e)/\arr.length=c*E.default.size/\arr.take (xs.length*E.default.size)=xs.flatMap enc)
def OwnSl.nil{o:aD}{e:aK}:OwnSl o e none 0 ([]:List α):=⟨aE _,.inl ⟨rfl,rfl⟩⟩
def OwnSl.keep{o o':aD}{e:aK}{A:Option aF}{c:Nat}{xs:List α}(w:OwnSl o e A c xs)(h:∀b x,A=some ⟨b,0,none⟩->o b=some x->o' b=some x):OwnSl o' e A c xs:=by refine⟨w.1,?_⟩;rcases w.2 with i|⟨b,d,k,j,g,f⟩;{grind};grind
def OwnSl.rowB{o:aD}{e:aK}{A:Option aF}{c:Nat}{xs:List α}(w:OwnSl o e A c xs)(hne:xs≠[]):∃b,A=some ⟨b,0,none⟩/\RowB o b xs:=by rcases w.2 with k|⟨b,d,i,g,j,f⟩;{exfalso;have:=w.1;simp_all};·exact⟨b,i,e,d.drop (xs.length*E.default.size),by rw[g,<- f,aU]⟩
def OwnSl.slF{o h:aD}{e:aK}{A:Option aF}{c:Nat}{xs:List α}(w:OwnSl o e A c xs)(hl:o.le h):SlF h A xs:=by by_cases d:xs=[];{rw[d];exact SlF.nil};·obtain⟨b,rfl,r⟩:=w.rowB d;exact r.slF hl
def OwnSl.priv{h g o:aD}{e:aK}{A:Option aF}{c:Nat}{xs:List α}(s:Sep h g o)(w:OwnSl o e A c xs):∃gb,PrivF h gb e A c xs/\∀k x,h k=some x->A≠some ⟨k,0,none⟩->gb k=some x:=by rcases w.2 with⟨m,l⟩|⟨b,d,p,n,j,i⟩;{subst m;have q:xs=[]:=cG (by have:=w.1;omega);subst q;exact⟨h,PrivF.nil h e A,fun k x e _=>e⟩};·refine⟨h.without b,⟨K6 xs,w.1,.inr ⟨b,d,p,P7 _ _,(K8 (s.own b _ n)).symm,j,i⟩⟩,fun k x e f=>?_⟩;unfold Heap.without;grind
def OwnSl.push{P:aV}{t e ty:aK}{z:aN}{bytes:Nat}(st:bV P t e z E.default.size bytes){h g o:aD}{A:Option aF}{c:Nat}{xs:List α}(s:Sep h g o)(w:OwnSl o e A c xs){v:aN}{y:α}(hv:v.cells=(enc y).toArray)(hsz:E.default.size<=1000)
 (hb:(2*(xs.length+1)+192)*bytes<=281474976710656) (hn:xs.length+1<=9223372036854775807) {K1:aD->Prop} {K:Option aF->Nat->Nat->aD->Prop}
 (x0:∀h1,h.le h1->K1 h1)
 (x:∀A' c' h' g' o',g.le g'->Sep h' g' o'->OwnSl o' e A' c' (xs++[y])->(∀k u,o k=some u->A≠some ⟨k,0,none⟩->o' k=some u/\A'≠some ⟨k,0,none⟩)->K A' (xs.length+1) c' h'):
 wpH P (aO t 1 #[(0,v)]) (fun v' hp=>∃(B:Option aF) (m d:Nat),v'= .slice B m d/\K1 hp/\wpH P (aM #[t,t] ty #[.slice A xs.length c,.slice B m d]) (fun v1 hp1=>∃(A':Option aF) (n' c':Nat),v1= .slice A' n' c'/\K A' n' c' hp1) hp) h:=by
 obtain⟨T,p,N⟩:=w.priv s;refine T7 st (vs:=[v]) (fun u hu=>by rw[List.mem_singleton.1 hu,hv];simp[E.default.len]) rfl gz0 rfl ?_;intro b i;have M:[v].flatMap (fun v=>v.cells.toList)=[y].flatMap enc:=by simp[hv]
 rw[M];refine⟨_,_,_,rfl,x0 _ (Heap.le_put _ i),?_⟩;have p':PrivF (h.put b (.cells ([y].flatMap enc).toArray e)) (T.put b (.cells ([y].flatMap enc).toArray e)) e A c xs:=Priv.put p i _;refine Bi st p' (ys:=[y]) rfl (Iw e h b [y]) hb hn ?_;intro A' c' h' g' W hp;refine⟨_,_,_,rfl,?_⟩;rw[aR]
 have r:∀k u,h k=some u->A≠some ⟨k,0,none⟩->g' k=some u:=by
  intro k u f R;have l:k≠b:=gz0;exact W k u (by rw[B9 _ _ l];grind)
 have L:∀k u,g k=some u->A≠some ⟨k,0,none⟩:=by
  intro k u f C;rcases w.2 with⟨_,h0⟩|⟨q,n,j,D,_⟩;·grind
  ·rw[C]at j;simp only[aL,aT,and_true]at j;subst j;rw[s.dis k _ D]at f;cases f
 rcases hp.2.2 with⟨S,_⟩|⟨q,n,j,D,F,ha,V⟩
 ·exfalso;have:=hp.2.1;grind
 ·subst j;let o':aD:=fun k=>if k=q then some (.cells (bD n) e)else if A=some ⟨k,0,none⟩then none else o k;have Q:o' q=some (.cells (bD n) e):=gz0;have ok:∀k,k≠q->A≠some ⟨k,0,none⟩->o' k=o k:=fun k h1 H=>by grind
  let g2:aD:=fun k=>match o' k with|some _=>none|none=>h' k
  have gs:∀k u,o' k=some u->g2 k=none:=fun k u f=>by grind
  have gn:∀k,o' k=none->g2 k=h' k:=fun k f=>by grind
  have G:∀k u,k≠q->g' k=some u->h' k=some u:=fun k u h1 f=>by rw[F,B9 _ _ h1];exact f
  have O:∀k u,o k=some u->A≠some ⟨k,0,none⟩->k≠q:=by
   rintro k u f H rfl;have:=r k u (s.own k u f) H;grind
  refine x _ c' h' g2 o' (fun k u f=>?_) ⟨fun k u f=>?_,fun k f=>(gn k f).symm,gs⟩ ⟨hp.2.1,.inr ⟨q,n,rfl,Q,ha,V⟩⟩ (fun k u f H=>?_)
  ·have X:o k=none:=by
    cases ho:o k with
    |none=>rfl
    |some y=>rw[s.dis k y ho]at f;cases f
   have C:=L k u f;have e3:=r k u (s.le k u f) C;grind
  ·by_cases l:k=q
   ·subst l;rw[Q]at f;cases f;rw[F,C3]
   ·by_cases C:A=some ⟨k,0,none⟩;·grind
    ·rw[ok k l C]at f;exact G k u l (r k u (s.own k u f) C)
  grind
end
structure Tb where
 bt:Nat
 bE:Nat
 bS:Nat
 rows:Nat
 cols:Nat
 cE:Nat
 cS:Nat
structure Tab (h g o:aD) (T:Tb) (M:Nat->Nat->Int) (S:Nat->Rat):Prop where
 sep:Sep h g o
 n1:T.bt≠T.bE
 n2:T.bt≠T.bS
 n3:T.bE≠T.bS
 head:∃ e,o T.bt=some (.cells #[I T.cols,.slice (some ⟨T.bE,0,none⟩) (T.rows*T.cols) T.cE,.slice (some ⟨T.bS,0,none⟩) T.rows T.cS] e)
 elems:∃ ws:List IV,RowB o T.bE ws/\ws.length=T.rows*T.cols/\∀ i j,i<T.rows->j<T.cols->∃ w,ws[i*T.cols+j]? = some w/\ZIr g w (M i j)
 scales:∃ ss:List QV,RowB o T.bS ss/\ss.length=T.rows/\Row RQr g ss T.rows S
 cE:T.rows*T.cols<=T.cE
 cS:T.rows<=T.cS
 small:T.rows<=10000/\T.cols<=10000
 pos:0<T.cols
def C5c(M:Nat->Nat->Int)(i j:Nat)(z:Int):Nat->Nat->Int:=fun a b=>if a=i/\b=j then z else M a b
def R8{rows cols i j:Nat}(hi:i<rows)(hj:j<cols):i*cols+j<rows*cols:=by have:(i+1)*cols<=rows*cols:=aG _ hi;grind
def B91{cols i j i' j':Nat}(hj:j<cols)(hj':j'<cols)(h:i*cols+j=i'*cols+j'):i=i'/\j=j':=by have c:(i*cols+j)/cols=i:=by{rw[cV,Nat.mul_add_div o,bZ hj,bX]};have d:(i'*cols+j')/cols=i':=by{rw[cV,Nat.mul_add_div o,bZ hj',bX]};grind
section
variable {h g o:aD} {T:Tb} {M:Nat->Nat->Int} {S:Nat->Rat} {K:VP} {m:Nat}
def Tab.next(t:Tab h g o T M S){h' g':aD}(s:Sep h' g' o)(l:g.le g'):Tab h' g' o T M S:=by refine⟨s,t.n1,t.n2,t.n3,t.head,?_,?_,t.cE,t.cS,t.small,t.pos⟩;{obtain⟨m,r,d,c⟩:=t.elems;refine⟨m,r,d,fun i j n f=>?_⟩;obtain⟨w,e,p⟩:=c i j n f;exact⟨w,e,Eh _ _ _ _ l p⟩};·obtain⟨k,r,d,c⟩:=t.scales;exact⟨k,r,d,c.mono H1 l⟩
def Tab.congr(t:Tab h g o T M S){M':Nat->Nat->Int}{S':Nat->Rat}(hM:∀i j,i<T.rows->j<T.cols->M i j=M' i j)(hS:∀i,i<T.rows->S i=S' i):Tab h g o T M' S':=by refine⟨t.sep,t.n1,t.n2,t.n3,t.head,?_,?_,t.cE,t.cS,t.small,t.pos⟩;{obtain⟨f,r,d,c⟩:=t.elems;grind};·obtain⟨e,r,d,c⟩:=t.scales;exact⟨e,r,d,c.congr hS⟩
def Tab.c0(t:Tab h g o T M S):h.cell? (aC ⟨T.bt,0,none⟩ 0)=some (I T.cols):=by obtain⟨e,c⟩:=t.head;refine t.sep.cell ?_;rw[D6];unfold Heap.cell?;grind
def Tab.c1(t:Tab h g o T M S):h.cell? (aC ⟨T.bt,0,none⟩ 1)=some (.slice (some ⟨T.bE,0,none⟩) (T.rows*T.cols) T.cE):=by obtain⟨e,c⟩:=t.head;refine t.sep.cell ?_;rw[D6];unfold Heap.cell?;grind
def Tab.c2(t:Tab h g o T M S):h.cell? (aC ⟨T.bt,0,none⟩ 2)=some (.slice (some ⟨T.bS,0,none⟩) T.rows T.cS):=by obtain⟨e,c⟩:=t.head;refine t.sep.cell ?_;rw[D6];unfold Heap.cell?;grind
def Tab.at(t:Tab h g o T M S){i j:Nat}(hi:i<T.rows)(hj:j<T.cols):∃w:IV,ZIr g w (M i j)/\h.cell? (aC (aC ⟨T.bE,i*T.cols*2,none⟩ (j*2)) 0)=some (.bool w.s)/\h.cell? (aC (aC ⟨T.bE,i*T.cols*2,none⟩ (j*2)) 1)=some (.slice w.A w.n w.c):=by obtain⟨m,r,q,k⟩:=t.elems;obtain⟨w,e,p⟩:=k i j hi hj;have l:=R8 hi hj;have d:m[i*T.cols+j]=w:=by{grind};have f:i*T.cols*2+j*2=(i*T.cols+j)*2:=by{rw[bH]};refine⟨w,p,t.sep.cell ?_,t.sep.cell ?_⟩;{rw[D6,D6,f];exact r.cell (i:=i*T.cols+j) oo (j:=0) (v:=.bool w.s) (by rw[d];rfl)};·rw[D6,D6,f];exact r.cell (i:=i*T.cols+j) oo (j:=1) (v:=.slice w.A w.n w.c) (by rw[d];rfl)
def Tab.ato(t:Tab h g o T M S){i j:Nat}(hi:i<T.rows)(hj:j<T.cols):∃w:IV,ZIr g w (M i j)/\o.cell? (aC (aC ⟨T.bE,i*T.cols*2,none⟩ (j*2)) 0)=some (.bool w.s)/\o.cell? (aC (aC ⟨T.bE,i*T.cols*2,none⟩ (j*2)) 1)=some (.slice w.A w.n w.c):=by obtain⟨m,r,q,k⟩:=t.elems;obtain⟨w,e,p⟩:=k i j hi hj;have l:=R8 hi hj;have d:m[i*T.cols+j]=w:=by{grind};have f:i*T.cols*2+j*2=(i*T.cols+j)*2:=by{rw[bH]};refine⟨w,p,?_,?_⟩;{rw[D6,D6,f];exact r.cell (i:=i*T.cols+j) oo (j:=0) (v:=.bool w.s) (by rw[d];rfl)};·rw[D6,D6,f];exact r.cell (i:=i*T.cols+j) oo (j:=1) (v:=.slice w.A w.n w.c) (by rw[d];rfl)
def Sep.le_le{h' g':aD}(s:Sep h g o)(s':Sep h' g' o)(l:g.le g'):h.le h':=fun k x e=>by
 cases ho:o k with
 |some y=>rw[s.own k y ho]at e;rw[s'.own k y ho];exact e
 |none=>rw[s.rest k ho]at e;rw[s'.rest k ho];exact l k x e
def Tab.sat(t:Tab h g o T M S){i:Nat}(hi:i<T.rows):∃w:QV,RQ g w (S i)/\h.cell? (aC (aC ⟨T.bS,0,none⟩ (i*4)) 0)=some (.bool w.s)/\h.cell? (aC (aC ⟨T.bS,0,none⟩ (i*4)) 1)=some (.slice w.A w.n w.c)/\h.cell? (aC (aC ⟨T.bS,0,none⟩ (i*4)) 2)=some (.bool w.s2)/\h.cell? (aC (aC ⟨T.bS,0,none⟩ (i*4)) 3)=some (.slice w.A2 w.n2 w.c2):=by obtain⟨p,r,m,d⟩:=t.scales;obtain⟨w,e,f⟩:=d i hi;have cell:∀k v,(enc w)[k]? = some v->h.cell? (aC (aC ⟨T.bS,0,none⟩ (i*4)) k)=some v:=by{intro k v l;refine t.sep.cell ?_;rw[D6,D6,aI];exact r.cell (i:=i) oo (j:=k) gz0};exact⟨w,f,cell 0 _ rfl,cell 1 _ rfl,cell 2 _ rfl,cell 3 _ rfl⟩
def Tab.store(t:Tab h g o T M S){i j:Nat}(hi:i<T.rows)(hj:j<T.cols){w:IV}{z:Int}(hz:ZIr g w z){K:Unit->aD->Prop} (x:∀h' o',Tab h' g o' T (C5c M i j z) S->(∀k,k≠T.bE->o' k=o k)->K () h'):wpH prog (aH 219 (.pointer (some (aC ⟨T.bE,i*T.cols*2,none⟩ (j*2)))) w.v) K h:=by obtain⟨L,r,N,B⟩:=t.elems;have p:=R8 hi hj;have G:i*T.cols*2+j*2=(i*T.cols+j)*2:=by{rw[bH]};rw[D6,G];refine Sep.store (E:=inferInstanceAs (Enc IV)) Sw (v:=w.v) (y:=w) rfl t.sep r (i:=i*T.cols+j) oo rfl ?_;intro h' o' H f n q;refine x h' o' ⟨n,t.n1,t.n2,t.n3,?_,⟨_,q,gz0,fun a b l m=>?_⟩,?_,t.cE,t.cS,t.small,t.pos⟩ (fun k A=>by rw[f,B9 _ _ A]);{obtain⟨e,F⟩:=t.head;exact⟨e,by rw[f,B9 _ _ t.n1];exact F⟩};{unfold C5c;by_cases e:a=i/\b=j;{grind};·obtain⟨u,D,O⟩:=B a b l m;refine⟨u,?_,gz0⟩;rw[List.getElem?_set_ne (fun x=>e (by have:=B91 hj m x;omega))];exact D};·obtain⟨s,C,d,c⟩:=t.scales;exact⟨s,by rw[f];exact C.other t.n3.symm _,d,c⟩
def Tab.sstore(t:Tab h g o T M S){i:Nat}(hi:i<T.rows){w:QV}{q:Rat}(hz:RQ g w q){K:Unit->aD->Prop} (x:∀h' o',Tab h' g o' T M (fun a=>if a=i then q else S a)->(∀k,k≠T.bS->o' k=o k)->K () h'):wpH prog (aH 244 (.pointer (some (aC ⟨T.bS,0,none⟩ (i*4)))) w.v) K h:=by obtain⟨A,r,z,l⟩:=t.scales;rw[D6,aI];refine Sep.store (E:=inferInstanceAs (Enc QV)) Ge (v:=w.v) (y:=w) rfl t.sep r (i:=i) oo rfl ?_;intro h' o' B d m p;refine x h' o' ⟨m,t.n1,t.n2,t.n3,?_,?_,⟨_,p,gz0,Row.upd l oo hz⟩,t.cE,t.cS,t.small,t.pos⟩ (fun k n=>by rw[d,B9 _ _ n]);{obtain⟨e,s⟩:=t.head;exact⟨e,by rw[d,B9 _ _ t.n2];exact s⟩};·obtain⟨u,j,c,f⟩:=t.elems;exact⟨u,by rw[d];exact j.other t.n3 _,c,f⟩
def O1{n:Nat}(h:n<=9223372036854775807):C4 (n:Int)=(n:Int):=C2 oo oo
def Af(t:Tab h g o T M S){i:Nat}(hi:i<T.rows)(hK:K (.slice (some ⟨T.bE,i*T.cols*2,none⟩) T.cols (T.cE-i*T.cols)) h):aJ prog 196 #[.pointer (some ⟨T.bt,0,none⟩),I (i:Int)] h K:=by refine(fnk func196) ?_;have c:=t.small;have n:=t.pos;have l:(i+1)*T.cols<=T.rows*T.cols:=aG _ hi;have k:T.rows*T.cols<=10000*10000:=Nat.mul_le_mul c.1 c.2;have m:=t.cE;have f:(i+1)*T.cols=i*T.cols+T.cols:=gz0;have e:C4 ((i:Int)*(T.cols:Int))=((i*T.cols:Nat):Int):=by{exact O1 oo};have d:C4 ((i:Int)+1)=((i+1:Nat):Int):=C2 oo oo;have j:C4 (C4 ((i:Int)+1)*(T.cols:Int))=(((i+1)*T.cols:Nat):Int):=by{rw[d,<- Int.natCast_mul];exact O1 oo};refine⟨_,rfl,_,_,_,t.c1,_,rfl,_,t.c0,_,rfl,_,t.c0,?_⟩;rw[e,j];refine⟨⟨oo,oo⟩,⟨oo,oo⟩,?_⟩;simp only[Int.toNat_natCast];rw[Ot oo,D6,aI,f,Nat.add_sub_cancel_left];exact hK
def A2y(t:Tab h g o T M S){start col:Nat}(hs:start<=T.rows)(hc:col<T.cols) (hK1:fnd (fun i=>decide (M i col≠0)) (T.rows-start) start<T.rows->K (.tuple #[I ((fnd (fun i=>decide (M i col≠0)) (T.rows-start) start:Nat):Int),.bool true]) h) (hK0:fnd (fun i=>decide (M i col≠0)) (T.rows-start) start=T.rows->K (.tuple #[I 0,.bool false]) h):aJ prog 204 #[.pointer (some ⟨T.bt,0,none⟩),I (start:Int),I (col:Int)] h K:=by refine(fnk func204 [(2,[8],[],[I 0])]) ?_;refine⟨fun L l=>∃k:Nat,k<=T.rows/\L=[I k]/\l=h/\start<=k/\∀j,start<=j->j<k->decide (M j col≠0)=false,fun L _=>T.rows-(iAt L 0).toNat,⟨start,hs,rfl,rfl,aE _,fun j f m=>oo⟩,?_⟩;rintro i l ⟨k,y,z,rfl,d,n⟩;obtain rfl:i=(k:Int):=gz0;refine⟨_,rfl,_,_,_,t.c2,C1 (fun r=>?_) (fun p=>?_)⟩;{have c:k<T.rows:=oo;refine Af t c ⟨_,_,_,rfl,_,rfl,oo,oo,?_⟩;obtain⟨w,q,s,u⟩:=t.at c hc;refine⟨_,_,_,_,s,u,G2 (q.mono t.sep.le) ⟨_,rfl,Br.not (C1 (fun e=>?_) (fun e=>?_))⟩⟩;{rw[show C4 ((k:Int)+1)=((k+1:Nat):Int) by have:=t.small;rw[C2]<;>omega];refine⟨⟨k+1,oo,rfl,rfl,oo,fun j f m=>?_⟩,by simp only[O8];omega⟩;grind};·have:fnd (fun i=>decide (M i col≠0)) (T.rows-start) start=k:=Ya _ d oo n (fun _=>gz0);grind};·have:fnd (fun i=>decide (M i col≠0)) (T.rows-start) start=T.rows:=Ya _ hs oo (fun j f m=>n j f oo) (fun A=>oo);grind
def B08(t:Tab h g o T M S){i k:Nat}(hi:i<T.rows)(hk:k<T.rows)(hik:i≠k) (hK:∀h' o',Tab h' g o' T (fun a=>M (xch i k a)) (fun a=>S (xch i k a))->(∀b,b≠T.bE->b≠T.bS->o' b=o b)->K (.tuple #[]) h'):aJ prog 205 #[.pointer (some ⟨T.bt,0,none⟩),I (i:Int),I (k:Int)] h K:=by refine(fnk func205 [(2,[17],[],[I 0])]) ?_;refine Af t hi ⟨_,_,_,rfl,Af t hk ⟨_,_,_,rfl,?_⟩⟩;refine⟨fun L C=>∃(c:Nat) (r:aD),c<=T.cols/\L=[I c]/\Tab C g r T (fun a b=>if b<c then M (xch i k a) b else M a b) S/\∀b,b≠T.bE->r b=o b,fun L _=>T.cols-(iAt L 0).toNat,⟨0,o,oo,rfl,t.congr (fun a b _ _=>oo) (fun _ _=>rfl),fun _ _=>rfl⟩,?_⟩;rintro z C ⟨c,r,hc,eL,t1,V⟩;obtain rfl:z=(c:Int):=gz0;refine C1 (fun H=>?_) (fun E=>?_);{have d:c<T.cols:=oo;obtain⟨l,f,s,q⟩:=t1.at hk d;obtain⟨B,e,j,y⟩:=t1.at hi d;rw[iN (bM c)]at f e;refine⟨_,rfl,oo,oo,_,_,_,_,s,q,_,rfl,oo,oo,_,_,_,_,j,y,_,rfl,oo,oo,?_⟩;refine t1.store hi d (w:=l) f ?_;intro N Q m A;refine⟨_,rfl,oo,oo,?_⟩;refine m.store hk d (w:=B) e ?_;intro D u n p;rw[show C4 ((c:Int)+1)=((c+1:Nat):Int) by have:=t.small;rw[C2]<;>omega];refine⟨⟨c+1,u,oo,rfl,n.congr (fun a b _ _=>?_) (fun _ _=>rfl),fun b O=>gz0⟩,by simp only[O8];omega⟩;show(if a=k/\b=c then M i c else if a=i/\b=c then M k c else if b<c then M (xch i k a) b else M a b)=if b<c+1 then M (xch i k a) b else M a b;unfold xch;grind};·obtain⟨l,f,s,q,F,G⟩:=t1.sat hk;obtain⟨B,e,j,y,R,X⟩:=t1.sat hi;refine⟨_,rfl,_,_,_,t1.c2,_,rfl,_,_,_,t1.c2,_,rfl,_,_,_,t1.c2,_,rfl,oo,oo,_,_,_,_,_,_,_,_,s,q,F,G,_,rfl,_,_,_,t1.c2,_,rfl,oo,oo,_,_,_,_,_,_,_,_,j,y,R,X,_,rfl,oo,oo,?_⟩;refine t1.sstore hi (w:=l) f ?_;intro N Q m A;refine⟨_,rfl,oo,oo,?_⟩;refine m.sstore hk (w:=B) e ?_;intro D u n p;refine hK D u (n.congr (fun a b _ O=>oo) (fun a _=>?_)) (fun b aa W=>gz0);show(if a=k then S i else if a=i then S k else S a)=S (xch i k a);unfold xch;grind
end
def Qm{P:aV}{t:aK}{v:aN}{K:VP}{h:aD}(x:∀b,h b=none->K (.pointer (some ⟨b,0,none⟩)) (h.put b (.cells v.cells t))):wpH P (Instr.box t v) K h:=by exact x
def B0z{m k:Nat}(hm:1<=m)(hk:k<4611686018427387904):(k:Int)*2^(2*m)<b64^m:=by have e:b64^m=(2:Int)^(2*m)*2^(62*m):=by{have:b64=(2:Int)^64:=dc;rw[this,<- Int.pow_mul,<- Int.pow_add];grind};have c:(2:Int)^62<=2^(62*m):=D9 dc o;have f:(k:Int)<2^62:=by{omega};have d:(0:Int)<2^(2*m):=bL dc;rw[e,Int.mul_comm];exact Int.mul_lt_mul_of_pos_left (Int.lt_of_lt_of_le f c) d
def A4z{m:Nat}{x y:Int}(hx:ZB m x)(hy:ZB m y):((x*y).natAbs:Int)<=2^(2*m):=by have:=hx.mul hy;unfold ZB at this;grind
section
variable {h g o:aD} {T:Tb} {M:Nat->Nat->Int} {S:Nat->Rat} {K:VP} {m:Nat}
def A6h:(prog.info? 345).map (·.zero)=some (some (.agg #[.slice none 0 0,.slice none 0 0])):=by kernel_rfl
def Yg(t:Tab h g o T M S){i p c:Nat}{wb:IV}{d:Int}(hi:i<T.rows)(hp':p<T.rows)(hip:i≠p)(hc:c<T.cols)(ib:ZIr g wb d)(hd:d≠0)(hm1:1<=m)(hm:2*m+1<=100000000)(hMi:∀b,b<T.cols->ZB m (M i b))(hMp:∀b,b<T.cols->ZB m (M p b))(hdb:ZB m d)
 (hK:∀h' g' o',g.le g'->Tab h' g' o' T (fun a b=>if a=i then(M p c*M i b-M i c*M p b).tdiv d else M a b) S->(∀b,b≠T.bE->o' b=o b)->K (.tuple #[]) h'):aJ prog 206 #[.pointer (some ⟨T.bt,0,none⟩),I (i:Int),I (p:Int),I (c:Int),wb.v] h K:=by
 refine(fnk func206 [(4,[28],[],[I 0])] (cs:=[(7,[],[],[])]) (os:=[(10,[0,1,3,2,4,5,6])]) (own:=[9,12,14]) (wr:=[255,256])) ?_;refine Af t hi ⟨_,_,_,rfl,Af t hp' ⟨_,_,_,rfl,?_⟩⟩;obtain⟨wf,zf,f0,f1⟩:=t.at hi hc;refine⟨_,rfl,oo,oo,_,_,_,_,f0,f1,?_⟩;refine⟨fun L R=>∃(k:Nat) (j l:aD),k<=T.cols/\L=[I k]/\g.le j/\Tab R j l T (fun a b=>if a=i/\b<k then(M p c*M i b-M i c*M p b).tdiv d else M a b) S/\∀b,b≠T.bE->l b=o b,fun L _=>T.cols-(iAt L 0).toNat,⟨0,g,o,oo,rfl,B7 _,t.congr (fun a b _ _=>oo) (fun _ _=>rfl),fun _ _=>rfl⟩,?_⟩;rintro z V ⟨k,j,l,hk,eL,E,t1,N⟩;obtain rfl:z=(k:Int):=gz0;have ew:C4 ((k:Int)+1)=((k+1:Nat):Int):=by have:=t.small;rw[C2]<;>omega
 refine C1 (fun ad=>?_) (fun ac=>?_)
 ·have f:k<T.cols:=oo;obtain⟨w1,Q,d0,d1⟩:=t1.at hi f;rw[iN oo]at Q
  have same:(M p c*M i k-M i c*M p k).tdiv d=M i k->(∃(k':Nat) (j l:aD),k'<=T.cols/\[I (C4 ((k:Int)+1))]=[I k']/\g.le j/\Tab V j l T (fun a b=>if a=i/\b<k' then(M p c*M i b-M i c*M p b).tdiv d else M a b) S/\∀b,b≠T.bE->l b=o b)/\T.cols-(iAt [I (C4 ((k:Int)+1))] 0).toNat<T.cols-(iAt [I (k:Int)] 0).toNat:=by
   intro e;rw[ew];refine⟨⟨k+1,j,l,oo,rfl,E,t1.congr (fun a b _ _=>?_) (fun _ _=>rfl),N⟩,by simp only[O8];omega⟩;grind
  refine⟨_,rfl,oo,oo,_,_,_,_,d0,d1,fun L R=>R=V,?_,?_⟩
  ·refine G2 (Q.mono t1.sep.le) ⟨_,rfl,C1 (fun e1=>?_) (fun _=>rfl)⟩;refine G2 (zf.mono (B0 E t1.sep.le)) ⟨_,rfl,C1 (fun e2=>same (by simp_all)) (fun _=>?_)⟩;obtain⟨w2,G,c0,c1⟩:=t1.at hp' f;refine⟨_,rfl,oo,oo,_,_,_,_,c0,c1,G2 (G.mono t1.sep.le) ⟨_,rfl,C1 (fun e3=>same (by simp_all)) (fun _=>rfl)⟩⟩
  ·rintro R rfl;refine Dy A6h ?_;intro bs q
   have aa:j bs=none:=by
    cases hx:j bs with
    |none=>rfl
    |some y=>rw[t1.sep.le _ _ hx]at q;cases q
   have W:=t1.sep.vis q (.cells #[.slice none 0 0,.slice none 0 0] 345);have Z0:SumS (j.put bs (.cells #[.slice none 0 0,.slice none 0 0] 345)) j bs 345 200000001 0 0:=SumS.zero aa;obtain⟨w3,z3,a0,a1⟩:=t1.ato hp' hc;obtain⟨w2,G,c0,c1⟩:=t1.ato hp' f;rw[iN oo]at G z3;have O:∀{gg:aD} {w:IV} {x:Int},ZIr gg w x->ZB m x->w.n<=100000000:=fun i b=>ZI.len i b oo;have s:=hMp c hc;have r:=hMi k f;have B:=hMi c hc;have u:=hMp k f;have q1:=A4z s r;have q2:=A4z B u;have q0:=B0z (m:=m) (k:=2) hm1 oo;have l3:=O z3 s;have l1:=O Q r;have lf:=O zf B;have l2:=O G u;refine⟨_,rfl,_,rfl,oo,oo,_,_,_,_,W.cell a0,W.cell a1,?_⟩;refine W.call (Bw Z0 z3 Q oo oo (N1:=m) oo oo ?_);intro G3 g3 C Z3 H3 s3;refine⟨rfl,_,rfl,oo,oo,_,_,_,_,s3.cell c0,s3.cell c1,?_⟩;refine s3.call (Ro Z3 (zf.mono (B0 E C)) (G.mono C) oo oo (N1:=m) oo oo ?_);intro G4 g4 X Z4 H4 s4;refine⟨rfl,s4.call (Nc Z4 oo ?_)⟩;intro sv Av nv cv G5 F z5 H5 s5;rw[Int.zero_add]at z5;refine⟨_,_,_,_,rfl,s4.le_le s5 F,?_⟩;have D:j.le G5:=B0 C (B0 X (B0 Z4.le F));have bz:ZB (2*m+1) (M p c*M i k-M i c*M p k):=((s.mul r).sub (B.mul u)).mono oo;refine s5.call (T1 z5 (ib.mono (B0 E D)) bz (hdb.mono oo) oo hd ?_);intro s6 A6 n6 c6 G6 A z6 H6 H;refine⟨_,_,_,_,rfl,s5.le_le H A,_,rfl,oo,oo,?_⟩;have t6:=t1.next H (B0 D A);refine t6.store hi f (w:=⟨s6,A6,n6,c6⟩) z6 ?_;intro H7 o7 t7 ae;rw[ew];refine⟨⟨k+1,G6,o7,oo,rfl,B0 E (B0 D A),t7.congr (fun a b _ _=>?_) (fun _ _=>rfl),fun b hb=>gz0⟩,by simp only[O8];omega⟩;show(if a=i/\b=k then(M p c*M i k-M i c*M p k).tdiv d else if a=i/\b<k then(M p c*M i b-M i c*M p b).tdiv d else M a b)=_;grind
 ·exact hK V j l E (t1.congr (fun a b _ hb=>by
   omega) (fun _ _=>rfl)) N
def B48(n:Nat)(s:PS)(h:s.cs=[]):∀c,(Ia n s c).cs.length<=c:=by
 intro c
 induction c with
 |zero=>show s.cs.length<=0;grind
 |succ c ih=>
  show(Ec n c (Ia n s c)).cs.length<=c+1;unfold Ec;grind
def A1q(n:Nat)(s:PS)(h:s.last≠0)(hs:s.sgn=1\/s.sgn= -1)(hl:s.cs.length<=n):∀c,(Ia n s c).last≠0/\((Ia n s c).sgn=1\/(Ia n s c).sgn= -1)/\(Ia n s c).cs.length<=n:=by
 intro c
 induction c with
 |zero=>exact⟨h,hs,hl⟩
 |succ c ih=>
  obtain⟨f,j,e⟩:=ih;show(Ec n c (Ia n s c)).last≠0/\((Ec n c (Ia n s c)).sgn=1\/(Ec n c (Ia n s c)).sgn= -1)/\(Ec n c (Ia n s c)).cs.length<=n;have g:=A4l n c (Ia n s c) e;unfold Ec;by_cases d:Tj n c (Ia n s c)<n
  ·rw[iP d];have:=A08 (fun i=>decide ((Ia n s c).M i c≠0)) (n-(Ia n s c).cs.length) (Ia n s c).cs.length (by unfold Tj at d;omega);refine⟨by simpa[Tj]using this,?_,?_⟩;·grind
   grind
  grind
def J0{α:Type}[E:Enc α]{P:aV}{t e ty:aK}{z:aN}{bytes:Nat}(st:bV P t e z E.default.size bytes){h g o:aD}{A:Option aF}{c n:Nat}{xs:List α}(s:Sep h g o)(w:OwnSl o e A c xs)(hxn:n=xs.length){v:aN}{y:α}(hv:v.cells=(enc y).toArray)(hsz:E.default.size<=1000) (hb:(2*(xs.length+1)+192)*bytes<=281474976710656) (hn:xs.length+1<=9223372036854775807) {K:Option aF->Nat->Nat->aD->Prop} (x:∀A' c' h' g' o',g.le g'->Sep h' g' o'->OwnSl o' e A' c' (xs++[y])->(∀k u,o k=some u->A≠some ⟨k,0,none⟩->o' k=some u/\A'≠some ⟨k,0,none⟩)->K A' (xs.length+1) c' h'): wpH P (aO t 1 #[(0,v)]) (fun v' hp=>∃(B:Option aF) (m d:Nat),v'= .slice B m d/\wpH P (aM #[t,t] ty #[.slice A n c,.slice B m d]) (fun v1 hp1=>∃(A':Option aF) (n' c':Nat),v1= .slice A' n' c'/\K A' n' c' hp1) hp) h:=by refine Ji _ (OwnSl.push (ty:=ty) st s w hv hsz hb hn (K1:=fun _=>True) (K:=K) (fun _ _=>trivial) x) ?_;grind
def Tab.own(t:Tab h g o T M S):(∃x,o T.bt=some x)/\(∃x,o T.bE=some x)/\∃x,o T.bS=some x:=by obtain⟨e,d⟩:=t.head;obtain⟨m,⟨c,l,j⟩,_⟩:=t.elems;obtain⟨i,⟨k,n,f⟩,_⟩:=t.scales;grind
def Tab.keep(t:Tab h g o T M S){h' g' o':aD}(s:Sep h' g' o')(l:g.le g')(hk:∀k x,o k=some x->k=T.bt\/k=T.bE\/k=T.bS->o' k=some x):Tab h' g' o' T M S:=by refine⟨s,t.n1,t.n2,t.n3,?_,?_,?_,t.cE,t.cS,t.small,t.pos⟩;{obtain⟨e,u⟩:=t.head;grind};{obtain⟨p,⟨e,ex,f⟩,d,c⟩:=t.elems;refine⟨p,⟨e,ex,hk _ _ f (.inr (.inl rfl))⟩,d,fun i j q m=>?_⟩;obtain⟨w,e,r⟩:=c i j q m;exact⟨w,e,Eh _ _ _ _ l r⟩};·obtain⟨n,⟨e,ex,f⟩,d,c⟩:=t.scales;exact⟨n,⟨e,ex,hk _ _ f (.inr (.inr rfl))⟩,d,c.mono H1 l⟩
abbrev zs(l:List Nat):List Int:=l.map fun(n:Nat)=>(n:Int)
def B61(T:Tb)(A:Option aF):Prop:=A≠some ⟨T.bt,0,none⟩/\A≠some ⟨T.bE,0,none⟩/\A≠some ⟨T.bS,0,none⟩
def A1v(t:Tab h g o T M S){c l nq:Nat}(hc:c<=T.cols)(hm1:1<=m)(hnq:∀k,k<=c->(Ia T.rows ⟨M,S,[],1,1⟩ k).cs.length<=nq)(hm:2*(3^nq*m)+1<=100000000)(hz:ZbP T.rows T.cols m l ⟨M,S,[],1,1⟩)
 (hK:∀h' g' o' A cap w,g.le g'->Tab h' g' o' T (Ia T.rows ⟨M,S,[],1,1⟩ c).M (Ia T.rows ⟨M,S,[],1,1⟩ c).S->OwnSl o' 3 A cap (zs (Ia T.rows ⟨M,S,[],1,1⟩ c).cs)->B61 T A->(∀k x,o k=some x->k≠T.bE->k≠T.bS->o' k=some x/\A≠some ⟨k,0,none⟩)->ZIr g' w (Ia T.rows ⟨M,S,[],1,1⟩ c).last->
  K (.tuple #[.slice A (Ia T.rows ⟨M,S,[],1,1⟩ c).cs.length cap,w.v,I (Ia T.rows ⟨M,S,[],1,1⟩ c).sgn]) h'):aJ prog 152 #[.pointer (some ⟨T.bt,0,none⟩),I (c:Int)] h K:=by
 refine(fnk func152 [(4,[7,9,17],[(8,2)],[.slice none 0 0,I 0,I 0,.bool false,.slice none 0 0]),(13,[45],[],[I 0])] (cs:=[(12,[9],[],[I 0])]) (own:=[5,8]) (wr:=[205,206])) ?_;have ay:=t.small;refine t.sep.call (Eu oo oo ?_);intro s1 A1 n1 c1 g1 l1 i1 h1 an;have t1:=t.next an l1
 refine⟨_,_,_,_,rfl,fun L hp=>∃(k:Nat) (g' o':aD) (A:Option aF) (cap:Nat) (w:IV),k<=c/\L=[.slice A (Ia T.rows ⟨M,S,[],1,1⟩ k).cs.length cap,I (Ia T.rows ⟨M,S,[],1,1⟩ k).sgn,I k,.bool w.s,.slice w.A w.n w.c]/\g.le g'/\Tab hp g' o' T (Ia T.rows ⟨M,S,[],1,1⟩ k).M (Ia T.rows ⟨M,S,[],1,1⟩ k).S/\OwnSl o' 3 A cap (zs (Ia T.rows ⟨M,S,[],1,1⟩ k).cs)/\B61 T A/\(∀k x,o k=some x->k≠T.bE->k≠T.bS->o' k=some x/\A≠some ⟨k,0,none⟩)/\ZIr g' w (Ia T.rows ⟨M,S,[],1,1⟩ k).last,
  fun L _=>c-(iAt L 2).toNat,⟨0,g1,o,none,0,⟨s1,A1,n1,c1⟩,oo,rfl,l1,t1,(OwnSl.nil:OwnSl o 3 none 0 ([]:List Int)),⟨by simp,by simp,by simp⟩,fun k x e _ _=>⟨e,by simp⟩,i1⟩,?_⟩;rintro pA pn pc av z ls lA ln lc hp ⟨k,g2,o2,A,cap,w,hk,eL,lg,t2,ow,u,ko,iw⟩;obtain⟨⟨rfl,rfl,rfl⟩,rfl,rfl,rfl,rfl,rfl,rfl⟩:=eL;have E:=A1q T.rows ⟨M,S,[],1,1⟩ (show(1:Int)≠0 from dc) (.inl rfl) (aP _) k;have D:=hz.run hm1 k oo;refine C1 (fun a0=>?_) (fun a5=>?_)
 ·have G:k<T.cols:=oo;have ew:C4 ((k:Int)+1)=((k+1:Nat):Int):=by rw[C2]<;>omega
  have aj:Ia T.rows ⟨M,S,[],1,1⟩ (k+1)=Ec T.rows k (Ia T.rows ⟨M,S,[],1,1⟩ k):=rfl;have aw:3^(Ia T.rows ⟨M,S,[],1,1⟩ k).cs.length*m<=3^nq*m:=aG _ (bG dc (hnq k oo));have R:=A6x (Ia T.rows ⟨M,S,[],1,1⟩ k).cs.length m hm1;generalize hst0:Ia T.rows ⟨M,S,[],1,1⟩ k=st at *;have X:fnd (fun i=>decide (st.M i k≠0)) (T.rows-st.cs.length) st.cs.length=Tj T.rows k st:=rfl;have a3:=A4l T.rows k st E.2.2;refine A2y t2 E.2.2 G (fun V=>?_) (fun V=>?_)
  ·rw[X]at V ⊢;have q:Ec T.rows k st={ M:=clr (fun i=>st.M (xch st.cs.length (Tj T.rows k st) i)) st.cs.length k st.last,S:=fun i=>st.S (xch st.cs.length (Tj T.rows k st) i),cs:=st.cs++[k],last:=st.M (Tj T.rows k st) k,sgn:=if Tj T.rows k st=st.cs.length then st.sgn else-st.sgn }:=by unfold Ec;grind
   generalize hr:Tj T.rows k st=r at *;have p:st.cs.length<T.rows:=oo;refine⟨_,_,rfl,fun L hq=>∃(g3 B:aD),L=[I (if r=st.cs.length then st.sgn else-st.sgn)]/\g2.le g3/\Tab hq g3 B T (fun i=>st.M (xch st.cs.length r i)) (fun i=>st.S (xch st.cs.length r i))/\∀b,b≠T.bE->b≠T.bS->B b=o2 b,?_,?_⟩
   ·refine E6 (fun af=>?_) (fun al=>?_)
    ·have d:r≠st.cs.length:=oo;refine B08 t2 p V (fun e=>d e.symm) ?_;intro h3 B t3 aa;refine⟨rfl,g2,B,?_,B7 _,t3,aa⟩;rw[iN d];have:C4 (0-st.sgn)= - st.sgn:=by rw[C2]<;>omega
     rw[this]
    ·refine⟨g2,o2,gz0,B7 _,t2.congr (fun i j _ _=>?_) (fun i _=>?_),fun _ _ _=>rfl⟩;·unfold xch;grind
     ·unfold xch;grind
   ·rintro aq h4 ⟨g3,B,a1,l3,t3,aa⟩;obtain rfl:aq=if r=st.cs.length then st.sgn else-st.sgn:=gz0;refine⟨_,rfl,_,_,_,t3.c2,?_⟩;have xk:xch st.cs.length r st.cs.length=r:=Jh _ _;have ak:∀i,i<T.rows->xch st.cs.length r i<T.rows:=fun i hi=>He p V hi;refine⟨fun L hq=>∃(i:Nat) (O H:aD),i<=T.rows/\L=[I i]/\g3.le O/\Tab hq O H T (fun a b=>if a<i/\a≠st.cs.length then clr (fun i=>st.M (xch st.cs.length r i)) st.cs.length k st.last a b else st.M (xch st.cs.length r a) b) (fun i=>st.S (xch st.cs.length r i))/\∀b,b≠T.bE->H b=B b,fun L _=>T.rows-(iAt L 0).toNat,⟨0,g3,B,oo,rfl,B7 _,t3.congr (fun a b _ _=>oo) (fun _ _=>rfl),fun _ _=>rfl⟩,?_⟩;rintro zi h5 ⟨i,O,H,hi,a4,l4,t4,ao⟩;obtain rfl:zi=(i:Int):=gz0;have ad:C4 ((i:Int)+1)=((i+1:Nat):Int):=by rw[C2]<;>omega
    refine C1 (fun au=>?_) (fun ax=>?_)
    ·have ac:i<T.rows:=oo;refine E6 (fun af=>?_) (fun al=>?_)
     ·have d:i≠st.cs.length:=oo;refine Yg (m:=3^st.cs.length*m) t4 ac p d G (Eh _ _ _ _ (B0 l3 l4) iw) E.1 R oo (fun b N=>?_) (fun b N=>?_) D.last ?_;·rw[iN oo];exact D.M _ b (ak i ac) N
      ·rw[iN oo,xk];exact D.M r b V N
      intro h6 g6 o6 l6 t6 a2;refine⟨rfl,?_⟩;rw[ad];refine⟨⟨i+1,g6,o6,oo,rfl,B0 l4 l6,t6.congr (fun a b _ _=>?_) (fun _ _=>rfl),fun b N=>gz0⟩,by simp only[O8];omega⟩;show(if a=i then((if st.cs.length<i/\st.cs.length≠st.cs.length then _ else st.M (xch st.cs.length r st.cs.length) k)*(if i<i/\i≠st.cs.length then _ else st.M (xch st.cs.length r i) b)-(if i<i/\i≠st.cs.length then _ else st.M (xch st.cs.length r i) k)*(if st.cs.length<i/\st.cs.length≠st.cs.length then _ else st.M (xch st.cs.length r st.cs.length) b)).tdiv st.last else if a<i/\a≠st.cs.length then clr (fun i=>st.M (xch st.cs.length r i)) st.cs.length k st.last a b else st.M (xch st.cs.length r a) b)=if a<i+1/\a≠st.cs.length then clr (fun i=>st.M (xch st.cs.length r i)) st.cs.length k st.last a b else st.M (xch st.cs.length r a) b;by_cases ea:a=i
      ·unfold clr;grind
      omega
     ·rw[ad];refine⟨⟨i+1,O,H,oo,rfl,l4,t4.congr (fun a b _ _=>?_) (fun _ _=>rfl),ao⟩,by simp only[O8];omega⟩;omega
    ·have Q:Tab h5 O H T (clr (fun i=>st.M (xch st.cs.length r i)) st.cs.length k st.last) (fun i=>st.S (xch st.cs.length r i)):=t4.congr (fun a b ha _=>by
      by_cases h7:a=st.cs.length;·unfold clr;grind
      omega) (fun _ _=>rfl);refine Af Q p ⟨_,_,_,rfl,_,rfl,oo,oo,?_⟩;obtain⟨wl,zl,d0,d1⟩:=Q.at p G
     have ah:ZIr O wl (st.M r k):=by
      have:clr (fun i=>st.M (xch st.cs.length r i)) st.cs.length k st.last st.cs.length k=st.M r k:=by unfold clr;grind
      grind
     refine⟨_,_,_,_,d0,d1,?_⟩;have C:∀b,b≠T.bE->b≠T.bS->H b=o2 b:=fun b h1 h2=>by grind
     have am:OwnSl H 3 pA pc (zs st.cs):=ow.keep fun b x hA N=>by
      rw[C b (fun e=>u.2.1 gz0) (fun e=>u.2.2 gz0)];exact N
     have W:(zs st.cs).length=st.cs.length:=by simp
     refine J0 (ty:=22) Gf Q.sep am (by simp) (y:=((k:Nat):Int)) rfl dc oo oo ?_;intro A' c' h' g' o' F s' az f;obtain⟨⟨x1,ar⟩,⟨x2,ae⟩,⟨x3,ai⟩⟩:=Q.own
     have t':=Q.keep s' F (fun kk x e ag=>by
      rcases ag with rfl|rfl|rfl;·exact(f _ _ e u.1).1
      ·exact(f _ _ e u.2.1).1
      ·exact(f _ _ e u.2.2).1);rw[W,ew];refine⟨⟨k+1,g',o',A',c',wl,oo,?_,B0 lg (B0 l3 (B0 l4 F)),?_⟩,?_⟩;·grind
     ·rw[aj,q];refine⟨t',gz0,⟨(f _ _ ar u.1).2,(f _ _ ae u.2.1).2,(f _ _ ai u.2.2).2⟩,fun kk x e h1 h2=>?_,Eh _ _ _ _ F ah⟩;grind
     ·show c-((k+1:Nat):Int).toNat<c-((k:Nat):Int).toNat;omega
  ·have q:Ec T.rows k st=st:=by unfold Ec;grind
   refine⟨_,_,rfl,?_⟩;rw[ew];refine⟨⟨k+1,g2,o2,pA,pc,w,oo,gz0,lg,?_⟩,?_⟩;·grind
   ·show c-((k+1:Nat):Int).toNat<c-((k:Nat):Int).toNat;omega
 grind
end
section
variable {h:aD} {K:VP} {A B:Option aF} {n c n' c' m:Nat} {s s':Bool} {x y:Int}
def B7u:RQ h ⟨false,none,0,0,false,none,0,0⟩ 0:=⟨ZI.zero,ZI.zero⟩
def A6n{z:Int}(i:ZI h s A n c z):RQ h ⟨s,A,n,c,false,none,0,0⟩ (z:Rat):=⟨by assumption,by simpa using ZI.zero⟩
def Q5(gl:Gtz h)(ix:ZI h s A n c x)(iy:ZI h s' B n' c' y)(hx:ZB m x)(hy:ZB m y)(hm:m<=6400000000)(hK:∀w h',h.le h'->RQ h' w (aZ x y)->K w.v h'):aJ prog 193 #[.agg #[.bool s,.slice A n c],.agg #[.bool s',.slice B n' c']] h K:=by refine(fnk func193 (cs:=[(2,[11],[],[.bool false]),(5,[],[(2,2),(3,2)],[.bool false,.slice none 0 0,.bool false,.slice none 0 0])]) (os:=[(4,[0,2,1,3,4,5]),(9,[0,1,3,4,2,5,6,7])]) (own:=[2,3,4,5])) ?_;refine⟨fun L T=>T=h/\((L=[.bool true]/\aZ x y=0)\/(L=[.bool false]/\y≠0)),?_,?_⟩;{refine G2 iy ⟨_,rfl,C1 (fun e=>⟨rfl,.inl ⟨rfl,by simp_all⟩⟩) (fun e=>G2 ix ⟨_,rfl,rfl,?_⟩)⟩;by_cases S:x=0;{simp_all};grind};rintro t T ⟨rfl,hL⟩;refine Br.of (fun e=>?_) (fun e=>?_);{rcases hL with⟨_,h0⟩|⟨h1,_⟩;{rw[h0]at hK;exact hK _ _ (B7 _) B7u};grind};refine⟨fun l D=>∃s A n c s' B n' c' g f,l=[.bool s,.slice A n c,.bool s',.slice B n' c']/\T.le D/\ZI D s A n c g/\ZI D s' B n' c' f/\0<f/\aZ g f=aZ x y/\ZB m g/\ZB m f,?_,?_⟩;{refine Pg iy ⟨_,rfl,C1 (fun e=>?_) (fun e=>?_)⟩;{have aa:y<0:=gz0;refine Cq ix ?_;intro s1 z;refine⟨_,_,_,_,rfl,B7 _,?_⟩;refine Cq iy ?_;intro X r;exact⟨_,_,_,_,rfl,B7 _,_,_,_,_,_,_,_,_,-x,-y,rfl,B7 _,z,r,o,Rat.neg_divInt_neg x y,hx.neg,hy.neg⟩};·have i:0<y:=gz0;exact⟨_,_,_,_,_,_,_,_,x,y,rfl,B7 _,ix,iy,i,rfl,hx,hy⟩};rintro s1 A1 n1 c1 X A2 n2 c2 ad ⟨G,A1',W,N,Q,A2',M,R,g,f,hl,k,z,r,i,D,C,p⟩;obtain⟨rfl,⟨rfl,rfl,rfl⟩,rfl,rfl,rfl,rfl⟩:s1=G/\(A1=A1'/\n1=W/\c1=N)/\X=Q/\A2=A2'/\n2=M/\c2=R:=gz0;rw[<- D]at hK;refine T2 r ⟨_,rfl,C1 (fun e1=>?_) (fun e1=>?_)⟩;{rw[e1,Qj]at hK;exact hK _ _ k (A6n z)};refine Cr (gl.mono k) z r C p hm ?_;intro A3 n3 c3 h3 u V;refine⟨_,_,_,_,rfl,?_⟩;generalize hqq:aZ g f=q at *;have d:q.num=g/(cJ g f:Int):=by{rw[<- hqq,Rat.num_divInt,Int.sign_eq_one_of_pos i,Int.one_mul,Int.gcd_comm]};have j:(q.den:Int)=f/(cJ g f:Int):=by{rw[<- hqq,Rat.den_divInt,iN o,Int.gcd_comm,Int.natCast_ediv,Int.natAbs_of_nonneg o]};have ac:0<cJ g f:=Int.gcd_pos_of_ne_zero_right g o;have E:ZB m (cJ g f:Int):=ZB.gcd o p;refine T2 V ⟨_,rfl,Br.not (C1 (fun S=>?_) (fun S=>?_))⟩;{rw[S]at d j;simp at d j;refine Y2 (q:=q) (z.mono u) (r.mono u) d j ?_;intro w H;exact⟨_,_,_,_,_,_,_,_,rfl,hK _ _ (B0 k u) H⟩};·refine T1 (z.mono u) V C E hm o ?_;intro s4 A4 n4 c4 h4 F i4;refine⟨_,_,_,_,rfl,F,?_⟩;refine T1 ((r.mono u).mono F) (V.mono F) p E hm o ?_;intro s5 A5 n5 c5 h5 O i5;refine⟨_,_,_,_,rfl,O,?_⟩;refine Y2 (q:=q) (i4.mono O) i5 (by rw[d,Int.tdiv_eq_ediv_of_dvd (Int.gcd_dvd_left g f)]) gz0 ?_;intro w H;exact⟨_,_,_,_,_,_,_,_,rfl,hK _ _ (B0 k (B0 u (B0 F O))) H⟩
end
section
variable {α:Type} [E:Enc α]
def OwnSl.store{P:aV}{t e:aK}(one:P.cellsOf t=E.default.size/\(P.info? t).isSome=true){v:aN}{y:α}(hv:v.cells=(enc y).toArray){h g o:aD}{A:Option aF}{c:Nat}{xs:List α}(s:Sep h g o)(w:OwnSl o e A c xs){i b:Nat}(hi:i<xs.length)(hA:A=some ⟨b,0,none⟩){K:Unit->aD->Prop} (x:∀h' o',Sep h' g o'->OwnSl o' e A c (xs.set i y)->(∀k,k≠b->o' k=o k)->K () h'):wpH P (aH t (.pointer (some (aC ⟨b,0,none⟩ (i*E.default.size)))) v) K h:=by rcases w.2 with⟨F,_⟩|⟨G,l,f,q,u,C⟩;{exfalso;grind};·rw[hA]at f;simp only[aL,aT,and_true]at f;subst f;obtain⟨ex,hex⟩:∃ex,l=xs.flatMap enc++ex:=⟨l.drop (xs.length*E.default.size),by rw[<- C,aU]⟩;rw[hex]at q u;obtain⟨z,j⟩:=Option.isSome_iff_exists.1 one.2;have D:z.size=E.default.size:=by{simpa[Program.cellsOf,j]using one.1};have n:=E.default.len y;have p:(i+1)*E.default.size<=xs.length*E.default.size:=aG _ hi;rw[bH,cD]at p;have d:(h.without b).put b (.cells (xs.flatMap enc++ex).toArray e)=h:=K8 (s.own b _ q);unfold aH;simp only[C9,Instr.sureAddr,I5,storeVar,K5 j,D,hv,List.size_toArray,n,ne_eq,not_true_eq_false,if_false];rw[D6,aI,<- d];refine H9 (enc y) (i*E.default.size) 0 _ (by rw[aR,K6,n];omega) (E.default.one y) ?_;have m:I8 (xs.flatMap enc++ex) (i*E.default.size+0) (enc y)=(xs.set i y).flatMap enc++ex:=by{rw[bX,<- A09 xs hi];unfold I8;rw[cF (by rw[K6];omega),List.drop_append_of_le_length (by rw[K6,n];omega),bK,bK,bK]};rw[m];have r:(h.without b).put b (.cells ((xs.set i y).flatMap enc++ex).toArray e)=h.put b (.cells ((xs.set i y).flatMap enc++ex).toArray e):=by{rw[<- d,Ea,d]};rw[r];refine x _ _ (s.upd q _) ⟨by simpa using w.1,.inr ⟨b,(xs.set i y).flatMap enc++ex,hA,C3 _ _ _,?_,?_⟩⟩ (fun k B=>B9 _ _ B);{rw[aR,K6]at u ⊢;grind};·rw[cF (by rw[K6];omega),bU (by rw[K6];omega)]
end
section
variable {h g:aD} {K:VP} {A:Option aF} {n c cols:Nat}
def B39(h:aD)(v:aN)(A:Option aF)(n c cols:Nat):Prop:=∃f0 f1:aF,v= .func (.func 251) #[] #[.pointer (some f0),.pointer (some f1)]/\h.cell? f0=some (.slice A n c)/\h.cell? f1=some (I (cols:Int))
def Yh(hc:1<=cols)(hK:∀v h',h.le h'->B39 h' v A n c cols->K v h'):aJ prog 198 #[.slice A n c,I (cols:Int)] h K:=by refine(fnk func198) ?_;refine Qm ?_;intro b g;refine⟨_,rfl,Qm ?_⟩;intro f d;have c1:Heap.cell? ((h.put b (.cells (bC (.slice A n c)) 232)).put f (.cells (bC (I (cols:Int))) 3)) ⟨f,0,none⟩=some (I (cols:Int)):=by{rw[D8];rfl};refine⟨_,rfl,_,c1,C1 (fun e=>o) (fun _=>hK _ _ (B0 (Heap.le_put _ g) (Heap.le_put _ d)) ⟨⟨b,0,none⟩,⟨f,0,none⟩,rfl,?_,c1⟩)⟩;refine C0 (Heap.le_put _ d) ?_;rw[D8];rfl
def Tr{g0:aD}{v:aN}{rows:Nat}(ic:B39 g0 v A (rows*cols) c cols)(hc:1<=cols)(hn:rows*cols<=1000000000)(hcap:rows*cols<=c){B:List aN->aD->(aD->Prop)->Prop}{K:aD->Prop}(J:Nat->aD->Prop)(h0:J 0 h)(hle:∀k h,J k h->g0.le h) (hB:∀k h1,k<rows->J k h1->B [.slice (V3 A ((k+1)*cols) (k*cols) 4) cols cols] h1 (J (k+1))) (hK:∀h1,J rows h1->K h1):A7z prog v h B K:=by obtain⟨p,s,rfl,D,z⟩:=ic;refine⟨251,#[],#[.pointer (some p),.pointer (some s)],rfl,A0u,?_⟩;intro l rec N d;show aJ _ _ #[.func (.yield l) #[] #[],.pointer (some p),.pointer (some s)] _ _;refine(fnk func251 [(1,[4],[],[I 0])]) ?_;refine⟨fun L w=>∃(k:Nat) (h1:aD),k<=rows/\L=[I ((k*cols:Nat):Int)]/\h1 l=none/\w=h1.put l (.loop rec)/\J k h1,fun L _=>rows*cols-(iAt L 0).toNat,⟨0,h,o,by simp,N,rfl,h0⟩,?_⟩;rintro i w ⟨k,h1,R,T,j,rfl,y⟩;obtain rfl:i=((k*cols:Nat):Int):=gz0;have q:=B0 (hle k h1 y) (Heap.le_put (.loop rec) j);have n:=C0 q D;have G:=C0 q z;refine⟨_,_,_,n,C1 (fun F=>?_) (fun C=>?_)⟩;{have f:k<rows:=by{grind};have Q:(k+1)*cols<=rows*cols:=aG _ f;have V:(k+1)*cols=k*cols+cols:=gz0;have M:(if((rows*cols-(((k*cols:Nat):Int)).toNat:Nat):Int)<(cols:Int)then((rows*cols-(((k*cols:Nat):Int)).toNat:Nat):Int)else(cols:Int))=(cols:Int):=by{omega};have t:C4 (((k*cols:Nat):Int)+(cols:Int))=(((k+1)*cols:Nat):Int):=by{rw[C2]<;>omega};refine⟨_,G,_,_,_,n,⟨o,o⟩,_,_,_,n,?_⟩;rw[M,t];simp only[Int.toNat_natCast];have E:(k+1)*cols-k*cols=cols:=o;rw[E];refine⟨⟨o,o⟩,⟨o,o⟩,⟨o,o⟩,?_⟩;refine(d _ h1 (J (k+1)) j (hB k h1 f y)).mono ?_;rintro r S ⟨rfl,u,g,rfl,e⟩;refine⟨_,rfl,?_⟩;show ∃(t11:Int),_;have m:=B0 (hle _ u e) (Heap.le_put (.loop rec) g);refine⟨_,C0 m z,?_⟩;rw[t];exact⟨⟨k+1,u,o,rfl,g,rfl,e⟩,by simp only[O8];omega⟩};·have H:k=rows:=by{by_cases O:k=rows;{exact O};·exfalso;have:(k+1)*cols<=rows*cols:=aG _ o;grind};grind
end
section
variable {α:Type} [E:Enc α]
def Vv{P:aV}{t e:aK}{z:aN}{bytes:Nat}(st:bV P t e z E.default.size bytes){h g o:aD}{A:Option aF}{c:Nat}{xs:List α}(s:Sep h g o)(w:OwnSl o e A c xs){v:aN}{y:α}(hv:v.cells=(enc y).toArray)(hsz:E.default.size<=1000)
 (hb:(2*(xs.length+1)+192)*bytes<=281474976710656) (hn:xs.length+1<=9223372036854775807) {K:VP}
 (x0:∀B m d hp,h.le hp->(∀{ty:aK} {K2:VP},(∀A' c' h' g' o',g.le g'->Sep h' g' o'->OwnSl o' e A' c' (xs++[y])->(∀k u,o k=some u->A≠some ⟨k,0,none⟩->o' k=some u/\A'≠some ⟨k,0,none⟩)->K2 (.slice A' (xs.length+1) c') h')->wpH P (aM #[t,t] ty #[.slice A xs.length c,.slice B m d]) K2 hp)->K (.slice B m d) hp):
 wpH P (aO t 1 #[(0,v)]) K h:=by
 obtain⟨V,p,N⟩:=w.priv s;refine T7 st (vs:=[v]) (fun u hu=>by rw[List.mem_singleton.1 hu,hv];simp[E.default.len]) rfl gz0 rfl ?_;intro b i;have M:[v].flatMap (fun v=>v.cells.toList)=[y].flatMap enc:=by simp[hv]
 rw[M];refine x0 _ _ _ _ (Heap.le_put _ i) (fun {ty K2} x=>?_);have p':PrivF (h.put b (.cells ([y].flatMap enc).toArray e)) (V.put b (.cells ([y].flatMap enc).toArray e)) e A c xs:=Priv.put p i _;refine Bi st p' (ys:=[y]) rfl (Iw e h b [y]) hb hn ?_;intro A' c' h' g' X hp;rw[aR]
 have r:∀k u,h k=some u->A≠some ⟨k,0,none⟩->g' k=some u:=by
  intro k u f S;have l:k≠b:=gz0;exact X k u (by rw[B9 _ _ l];grind)
 have L:∀k u,g k=some u->A≠some ⟨k,0,none⟩:=by
  intro k u f C;rcases w.2 with⟨_,h0⟩|⟨q,n,j,D,_⟩;·grind
  ·rw[C]at j;simp only[aL,aT,and_true]at j;subst j;rw[s.dis k _ D]at f;cases f
 rcases hp.2.2 with⟨T,_⟩|⟨q,n,j,D,F,ha,W⟩
 ·exfalso;have:=hp.2.1;grind
 ·subst j;let o':aD:=fun k=>if k=q then some (.cells (bD n) e)else if A=some ⟨k,0,none⟩then none else o k;have Q:o' q=some (.cells (bD n) e):=gz0;have ok:∀k,k≠q->A≠some ⟨k,0,none⟩->o' k=o k:=fun k R H=>by grind
  let g2:aD:=fun k=>match o' k with|some _=>none|none=>h' k
  have gs:∀k u,o' k=some u->g2 k=none:=fun k u f=>by grind
  have gn:∀k,o' k=none->g2 k=h' k:=fun k f=>by grind
  have G:∀k u,k≠q->g' k=some u->h' k=some u:=fun k u R f=>by rw[F,B9 _ _ R];exact f
  have O:∀k u,o k=some u->A≠some ⟨k,0,none⟩->k≠q:=by
   rintro k u f H rfl;have:=r k u (s.own k u f) H;grind
  refine x _ c' h' g2 o' (fun k u f=>?_) ⟨fun k u f=>?_,fun k f=>(gn k f).symm,gs⟩ ⟨hp.2.1,.inr ⟨q,n,rfl,Q,ha,W⟩⟩ (fun k u f H=>?_)
  ·have aa:o k=none:=by
    cases ho:o k with
    |none=>rfl
    |some y=>rw[s.dis k y ho]at f;cases f
   have C:=L k u f;have e3:=r k u (s.le k u f) C;grind
  ·by_cases l:k=q
   ·subst l;rw[Q]at f;cases f;rw[F,C3]
   ·by_cases C:A=some ⟨k,0,none⟩;·grind
    ·rw[ok k l C]at f;exact G k u l (r k u (s.own k u f) C)
  grind
end
def A0s{P:aV}{t:aK}(one:P.cellsOf t=1/\(P.info? t).isSome=true){v:aN}(hv:Pe v=true)(hc:v.cells=#[v]){h g o:aD}(s:Sep h g o){b:Nat}{cs:Array aN}{e:aK}(hb:o b=some (.cells cs e)){i:Nat}(hi:i<cs.size){K:Unit->aD->Prop} (x:∀h' o',Sep h' g o'->o'=o.put b (.cells (cs.setIfInBounds i v) e)->K () h'):wpH P (aH t (.pointer (some (aC ⟨b,0,none⟩ i))) v) K h:=by rw[D6,aI];have c:h.put b (.cells cs e)=h:=Pc (s.own b _ hb);rw[<- c];refine Bm one.1 one.2 hv hc hi ?_;exact x _ _ (s.upd hb _) rfl
structure NT (o:aD) (bp bt cols:Nat) (es:List IV) (ss:List QV) (A:Option aF) (c:Nat) (A':Option aF) (c':Nat):Prop where
 hp:∃ e,o bp=some (.cells #[.pointer (some ⟨bt,0,none⟩)] e)
 ht:∃ e,o bt=some (.cells #[I (cols:Int),.slice A es.length c,.slice A' ss.length c'] e)
 oe:OwnSl o 219 A c es
 os:OwnSl o 244 A' c' ss
 ne:bp≠bt
 a1:A≠some ⟨bp,0,none⟩/\A≠some ⟨bt,0,none⟩
 a2:A'≠some ⟨bp,0,none⟩/\A'≠some ⟨bt,0,none⟩
 a3:∀ b,A=some ⟨b,0,none⟩->A'≠some ⟨b,0,none⟩
section
variable {h g o:aD} {bp bt cols:Nat} {es:List IV} {ss:List QV} {A A':Option aF} {c c':Nat}
def NT.cp(n:NT o bp bt cols es ss A c A' c')(s:Sep h g o):h.cell? ⟨bp,0,none⟩=some (.pointer (some ⟨bt,0,none⟩)):=by obtain⟨e,d⟩:=n.hp;refine s.cell ?_;unfold Heap.cell?;grind
def NT.c1(n:NT o bp bt cols es ss A c A' c')(s:Sep h g o):h.cell? (aC ⟨bt,0,none⟩ 1)=some (.slice A es.length c):=by obtain⟨e,d⟩:=n.ht;refine s.cell ?_;rw[D6];unfold Heap.cell?;grind
def NT.c2(n:NT o bp bt cols es ss A c A' c')(s:Sep h g o):h.cell? (aC ⟨bt,0,none⟩ 2)=some (.slice A' ss.length c'):=by obtain⟨e,d⟩:=n.ht;refine s.cell ?_;rw[D6];unfold Heap.cell?;grind
def B43:prog.cellsOf 285=1/\(prog.info? 285).isSome=true:=by constructor<;>kernel_rfl
def B42:prog.cellsOf 232=1/\(prog.info? 232).isSome=true:=by constructor<;>kernel_rfl
def NT.buildE(n:NT o bp bt cols es ss A c A' c')(s:Sep h g o)(w:IV)(hl:es.length<=100000000){F:aD->Prop}(hF:∀h' g' o' A2 c2,g.le g'->Sep h' g' o'->NT o' bp bt cols (es++[w]) ss A2 c2 A' c'->F h'){K:VP} (x:∀B m d hp,h.le hp->hp.cell? ⟨bp,0,none⟩=some (.pointer (some ⟨bt,0,none⟩))->(∀{K2:VP},(∀A2 c2 h2,h2.cell? ⟨bp,0,none⟩=some (.pointer (some ⟨bt,0,none⟩))->wpH prog (aH 285 (.pointer (some (aC ⟨bt,0,none⟩ 1))) (.slice A2 (es.length+1) c2)) (fun _ h3=>F h3) h2->K2 (.slice A2 (es.length+1) c2) h2)->wpH prog (aM #[285,285] 285 #[.slice A es.length c,.slice B m d]) K2 hp)->K (.slice B m d) hp): wpH prog (aO 285 1 #[(0,w.v)]) K h:=by refine Vv tZs s n.oe (y:=w) rfl dc oo oo ?_;intro B m d hp D i;refine x B m d hp D (C0 D (n.cp s)) (fun {K2} r=>i ?_);intro A2 c2 h2 O E N C R keep;obtain⟨V,u⟩:=n.hp;obtain⟨Q,t⟩:=n.ht;have M:=keep bp _ u n.a1.1;have L:=keep bt _ t n.a1.2;refine r A2 c2 h2 ?_ ?_;{refine C.cell ?_;unfold Heap.cell?;grind};·refine A0s B43 rfl rfl C L.1 (by simp) ?_;intro h3 G T H;have ko:∀k,k≠bt->G k=E k:=fun k r=>by{rw[H,B9 _ _ r]};refine hF h3 O G A2 c2 N T ⟨⟨V,gz0⟩,⟨Q,by rw[H,C3];simp⟩,R.keep fun b y j p=>gz0,?_,n.ne,⟨M.2,L.2⟩,n.a2,?_⟩;{refine(n.os.keep (o':=E) fun b y j p=>(keep b y p (fun e=>n.a3 b e j)).1).keep fun b y j p=>by rw[ko b (fun e=>n.a2.2 gz0)];exact p};·intro b j f;rcases n.os.2 with⟨_,W⟩|⟨z,S,l,q,_⟩;{grind};·rw[l]at f;simp only[aL,aT,and_true]at f;subst f;exact(keep z _ q (fun e=>n.a3 z e l)).2 j
def NT.buildS(n:NT o bp bt cols es ss A c A' c')(s:Sep h g o)(w:QV)(hl:ss.length<=100000000){F:aD->Prop}(hF:∀h' g' o' A2 c2,g.le g'->Sep h' g' o'->NT o' bp bt cols es (ss++[w]) A c A2 c2->F h'){K:VP} (x:∀B m d hp,h.le hp->hp.cell? ⟨bp,0,none⟩=some (.pointer (some ⟨bt,0,none⟩))->(∀{K2:VP},(∀A2 c2 h2,h2.cell? ⟨bp,0,none⟩=some (.pointer (some ⟨bt,0,none⟩))->wpH prog (aH 232 (.pointer (some (aC ⟨bt,0,none⟩ 2))) (.slice A2 (ss.length+1) c2)) (fun _ h3=>F h3) h2->K2 (.slice A2 (ss.length+1) c2) h2)->wpH prog (aM #[232,232] 232 #[.slice A' ss.length c',.slice B m d]) K2 hp)->K (.slice B m d) hp): wpH prog (aO 232 1 #[(0,w.v)]) K h:=by refine Vv A0v s n.os (y:=w) rfl dc oo oo ?_;intro B m d hp z i;refine x B m d hp z (C0 z (n.cp s)) (fun {K2} p=>i ?_);intro A2 c2 h2 N C M u Q keep;obtain⟨T,r⟩:=n.hp;obtain⟨O,q⟩:=n.ht;have L:=keep bp _ r n.a2.1;have H:=keep bt _ q n.a2.2;refine p A2 c2 h2 ?_ ?_;{refine u.cell ?_;unfold Heap.cell?;grind};·refine A0s B42 rfl rfl u H.1 (by simp) ?_;intro h3 E S G;have ko:∀k,k≠bt->E k=C k:=fun k p=>by{rw[G,B9 _ _ p]};refine hF h3 N E A2 c2 M S ⟨⟨T,gz0⟩,⟨O,by rw[G,C3];simp⟩,?_,Q.keep fun b y f j=>gz0,n.ne,n.a1,⟨L.2,H.2⟩,?_⟩;{refine(n.oe.keep (o':=C) fun b y f j=>(keep b y j (fun e=>n.a3 b f e)).1).keep fun b y f j=>by rw[ko b (fun e=>n.a1.2 gz0)];exact j};·intro b f;rcases n.oe.2 with⟨_,V⟩|⟨t,R,D,l,_⟩;{grind};·rw[D]at f;simp only[aL,aT,and_true]at f;subst f;exact(keep t _ l (fun e=>n.a3 t D e)).2
end
def A4m(E:Nat->Rat)(cols i:Nat):Nat->Rat:=fun j=>E (i*cols+j)
def B4c(E:Nat->Rat)(cols i j:Nat):Int:=scl (A4m E cols i j) (Di (A4m E cols i) cols:Int)
def B3g(E:Nat->Rat)(cols i:Nat):Nat->Nat
 |0=>0
 |j+1=>cJ (B3g E cols i j:Int) (B4c E cols i j)
def A3b(E:Nat->Rat)(cols i:Nat):Nat:=if B3g E cols i cols=0 then 1 else B3g E cols i cols
def A4e(E:Nat->Rat)(cols i j:Nat):Int:=(B4c E cols i j).tdiv (A3b E cols i:Int)
def Wc(E:Nat->Rat)(cols i:Nat):Rat:=aZ (Di (A4m E cols i) cols:Int) (A3b E cols i:Int)
def B54(E:Nat->Rat)(cols i:Nat):∀n j,j<n->(B3g E cols i n:Int)∣B4c E cols i j:=by
 intro n
 induction n with
 |zero=>omega
 |succ n ih=>
  intro j c;by_cases e:j=n;·subst e;exact Int.gcd_dvd_right _ _
  ·exact Int.dvd_trans (Int.gcd_dvd_left _ _) (ih j o)
def Sp(E:Nat->Rat)(cols i:Nat):0<A3b E cols i:=by unfold A3b;grind
def B5i(E:Nat->Rat)(cols i:Nat){j:Nat}(hj:j<cols):(A3b E cols i:Int)∣B4c E cols i j:=by unfold A3b;split;{omega};·exact B54 E cols i cols j hj
def B7m(E:Nat->Rat)(cols i:Nat){j:Nat}(hj:j<cols):(A4e E cols i j:Rat)=Wc E cols i*E (i*cols+j):=by have f:=Sp E cols i;have c:((A3b E cols i:Nat):Int)≠0:=o;have e:((A4e E cols i j:Int):Rat)*((A3b E cols i:Nat):Int)=E (i*cols+j)*((Di (A4m E cols i) cols:Nat):Int):=by{rw[<- aS];unfold A4e;rw[Int.tdiv_mul_cancel (B5i E cols i hj)];exact B0g (by have:=A02 (A4m E cols i) cols j hj;exact Int.natCast_dvd_natCast.2 this)};have d:=S3 c;unfold Wc;rw[bJ];grind
def Se(E:Nat->Rat)(cols i:Nat):0<Wc E cols i:=by unfold Wc;rw[bJ];have c:(0:Rat)<((Di (A4m E cols i) cols:Nat):Int):=by{have:=A01 (A4m E cols i) cols;exact_mod_cast this};have d:(0:Rat)<((A3b E cols i:Nat):Int):=by{have:=Sp E cols i;exact_mod_cast this};exact Rat.mul_pos c (Rat.inv_pos.2 d)
def ZB.gcd2{k:Nat}{x y:Int}(hx:ZB k x)(hy:ZB k y):ZB k (cJ x y:Int):=by by_cases h:y=0;{subst h;rw[Int.gcd_zero_right];assumption};·exact ZB.gcd h hy
section
variable {E:Nat->Rat} {cols i m:Nat}
def Zk(h:∀j,j<cols->Sz m (E (i*cols+j))){j:Nat}(hj:j<cols):ZB (1+cols*m+m) (B4c E cols i j):=by have:=B0f (h j hj) (Lk (f:=A4m E cols i) cols h);exact this.mono o
def B20(h:∀j,j<cols->Sz m (E (i*cols+j))):∀j,j<=cols->ZB (1+cols*m+m) (B3g E cols i j:Int):=by
 intro j
 induction j with
 |zero=>intro _;exact ZB.zero
 |succ j ih=>intro c;exact(ih o).gcd2 (Zk h o)
def A0l(h:∀j,j<cols->Sz m (E (i*cols+j))):ZB (1+cols*m+m) (A3b E cols i:Int):=by unfold A3b;split;{exact ZB.one o};·exact B20 h cols (aE _)
def B7l(h:∀j,j<cols->Sz m (E (i*cols+j))){j:Nat}(hj:j<cols):ZB (1+cols*m+m) (A4e E cols i j):=(Zk h hj).tdiv
def A4d(h:∀j,j<cols->Sz m (E (i*cols+j))):Sz (1+cols*m+m) (Wc E cols i):=by have:=Sp E cols i;exact U3 o ((Lk (f:=A4m E cols i) cols h).mono o) (A0l h)
end
structure EsOk (g:aD) (E:Nat->Rat) (cols k:Nat) (es:List IV) (V:Nat->Int) (j:Nat):Prop where
 len:es.length=k*cols+j
 rows:∀ a b,a<k->b<cols->∃ w,es[a*cols+b]? = some w/\ZIr g w (A4e E cols a b)
 last:∀ b,b<j->∃ w,es[k*cols+b]? = some w/\ZIr g w (V b)
def EsOk.mono{g g':aD}{E:Nat->Rat}{cols k j:Nat}{es:List IV}{V:Nat->Int}(e:EsOk g E cols k es V j)(l:g.le g'):EsOk g' E cols k es V j:=by refine⟨e.len,fun a b c i=>?_,fun b c=>?_⟩;{obtain⟨w,f,d⟩:=e.rows a b c i;exact⟨w,f,Eh _ _ _ _ l d⟩};·obtain⟨w,f,d⟩:=e.last b c;exact⟨w,f,Eh _ _ _ _ l d⟩
def EsOk.push{g:aD}{E:Nat->Rat}{cols k j:Nat}{es:List IV}{V:Nat->Int}(e:EsOk g E cols k es V j){w:IV}(hw:ZIr g w (V j)):EsOk g E cols k (es++[w]) V (j+1):=by have l:=e.len;refine⟨gz0,fun a b c f=>?_,fun b c=>?_⟩;{obtain⟨u,d,i⟩:=e.rows a b c f;grind};·by_cases m:b=j;{grind};·obtain⟨u,d,i⟩:=e.last b o;grind
def EsOk.set{g:aD}{E:Nat->Rat}{cols k:Nat}{es:List IV}{V:Nat->Int}(e:EsOk g E cols k es V cols){b:Nat}(hb:b<cols){w:IV}{z:Int}(hw:ZIr g w z):EsOk g E cols k (es.set (k*cols+b) w) (fun x=>if x=b then z else V x) cols:=by have m:=e.len;refine⟨gz0,fun a d c f=>?_,fun d c=>?_⟩;{obtain⟨u,j,l⟩:=e.rows a d c f;have i:=R8 c f;grind};·by_cases n:d=b;{grind};·obtain⟨u,j,l⟩:=e.last d c;grind
def EsOk.congr{g:aD}{E:Nat->Rat}{cols k j:Nat}{es:List IV}{V V':Nat->Int}(e:EsOk g E cols k es V j)(h:∀b,b<j->V b=V' b):EsOk g E cols k es V' j:=⟨e.len,e.rows,fun b c=>by rw[<- h b c];exact e.last b c⟩
def EsOk.next{g:aD}{E:Nat->Rat}{cols k:Nat}{es:List IV}{V:Nat->Int}(e:EsOk g E cols k es V cols)(h:∀b,b<cols->V b=A4e E cols k b)(V':Nat->Int):EsOk g E cols (k+1) es V' 0:=by refine⟨by rw[e.len,bH,cD];rfl,fun a b d c=>?_,fun b d=>o⟩;by_cases f:a=k;{subst f;rw[<- h b c];exact e.last b c};·exact e.rows a b o c
section
variable {h g:aD} {K:VP} {A:Option aF} {n c rows cols m:Nat} {E:Nat->Rat}
def Ns(gl:Gl h)(r:RowV RQr h A (rows*cols) E)(hcap:rows*cols<=c)(hr:1<=rows)(hr2:rows<=10000)(hc:1<=cols)(hc2:cols<=10000)(hs:∀i,i<rows*cols->Sz m (E i))(hm:1+cols*m+m<=6400000000) (hK:∀h' g' o' T,h.le g'->Tab h' g' o' T (A4e E cols) (Wc E cols)->T.rows=rows->T.cols=cols->K (.pointer (some ⟨T.bt,0,none⟩)) h'):aJ prog 151 #[.slice A (rows*cols) c,I (cols:Int)] h K:=by refine(fnk func151 [(8,[31],[(9,2)],[I 0,.bool false,.slice none 0 0]),(17,[62],[],[I 0])] (cs:=[(16,[],[(9,2)],[.bool false,.slice none 0 0])]) (os:=[(12,[1,2,3,4,5,0,6,7,8,9,10]),(21,[1,2,3,4,5,6,0,7,8,9,10,11,12])]) (rs:=[(4,[.slice none 0 0])]) (al:=[(12,[(0,[6,7])]),(21,[(0,[7,8,9])])]) (own:=[7,9,11,12,14]) (wr:=[1000000000])) ?_;have cm:rows*cols<=100000000:=by{have:rows*cols<=10000*10000:=Nat.mul_le_mul hr2 hc2;omega};refine Qm ?_;intro bt bi;refine⟨_,rfl,Dy (z:=.pointer none) (by kernel_rfl) ?_⟩;intro V ap;have au:V≠bt:=by{rintro rfl;rw[C3]at ap;cases ap};refine⟨_,rfl,?_⟩;refine Bm (by kernel_rfl) (by kernel_rfl) rfl rfl dc ?_;have s0:=((Sep.refl h).new bi (.cells (bC (.agg #[I (cols:Int),.slice none 0 0,.slice none 0 0])) 287)).new ap (.cells ((bC (.pointer none)).setIfInBounds 0 (.pointer (some ⟨bt,0,none⟩))) 236);have n0:NT ((Y9.put bt (.cells (bC (.agg #[I (cols:Int),.slice none 0 0,.slice none 0 0])) 287)).put V (.cells ((bC (.pointer none)).setIfInBounds 0 (.pointer (some ⟨bt,0,none⟩))) 236)) V bt cols [] [] none 0 none 0:=⟨⟨_,C3 _ _ _⟩,⟨_,by rw[B9 _ _ au.symm,C3];rfl⟩,OwnSl.nil,OwnSl.nil,au,⟨by simp,by simp⟩,⟨by simp,by simp⟩,fun b hb=>by cases hb⟩;generalize (Y9.put bt (.cells (bC (.agg #[I (cols:Int),.slice none 0 0,.slice none 0 0])) 287)).put V (.cells ((bC (.pointer none)).setIfInBounds 0 (.pointer (some ⟨bt,0,none⟩))) 236)=o0 at s0 n0;refine s0.call (Yh hc ?_);intro v g0 l0 ic cb s3;have bound:∀k,k<rows->∀j,j<cols->Sz m (E (k*cols+j)):=fun k hk j hj=>hs _ (R8 hk hj);refine⟨_,rfl,Tr ic hc oo hcap (fun k M=>∃(O o1:aD) (C:List IV) (u:List QV) (A1:Option aF) (c1:Nat) (A2:Option aF) (c2:Nat),g0.le O/\Sep M O o1/\NT o1 V bt cols C u A1 c1 A2 c2/\EsOk O E cols k C (fun _=>0) 0/\u.length=k/\Row RQr O u k (Wc E cols)) ?_ ?_ ?_ ?_⟩;{exact⟨g0,o0,[],[],none,0,none,0,B7 _,s3,n0,⟨by simp,fun a b h1=>oo,fun b h1=>oo⟩,rfl,Row.nil⟩};{rintro k M ⟨O,o1,C,u,A1,c1,A2,c2,lg,s1,_⟩;exact B0 lg s1.le};{rintro k cf av ⟨O,o1,C,u,A1,c1,A2,c2,a7,s4,R,e1,aa,rs⟩;have bk:=bound k av;have ch:(k+1)*cols<=rows*cols:=aG _ av;have cq:(k+1)*cols=k*cols+cols:=gz0;have b8:k<=k*cols:=Nat.le_mul_of_pos_right k hc;have ar:=B0 l0 a7;have aw:RowV RQr h A ((k+1)*cols) E:=by{have:=r.cut (c:=c) (l:=0) (k:=(k+1)*cols) oo hcap;rw[I4]at this;grind};have ai:RowV RQr h (V3 A ((k+1)*cols) (k*cols) 4) cols (A4m E cols k):=aw.cut (c:=(k+1)*cols) (l:=k*cols) (k:=cols) oo (aE _);refine⟨_,_,_,rfl,s4.call (Eo (gl.mono ar) (ai.mono H1 ar) oo bk hm ?_)⟩;intro sd Ad nd cd g2 l2 id cr s5;have cE:=R.c1 s5;rw[e1.len,bX]at cE;have d2:=Lk (f:=A4m E cols k) cols bk;have an:1+cols*m<=1+cols*m+m:=oo;refine⟨_,_,_,_,rfl,_,R.cp s5,_,rfl,_,_,_,cE,fun L M=>∃(j:Nat) (s:Bool) (B:Option aF) (bn bc:Nat) (W o3:aD) (C:List IV) (A1:Option aF) (c1:Nat),j<=cols/\L=[I (j:Int),.bool s,.slice B bn bc]/\g2.le W/\Sep M W o3/\NT o3 V bt cols C u A1 c1 A2 c2/\EsOk W E cols k C (B4c E cols k) j/\ZI W s B bn bc (B3g E cols k j:Int),fun L _=>cols-(iAt L 0).toNat,⟨0,false,none,0,0,g2,o1,C,A1,c1,oo,rfl,B7 _,s5,R,(e1.mono l2).congr (fun b hb=>oo),ZI.zero⟩,?_⟩;rintro z bs bA bn bc co ⟨j,sB,B,ck,ca,W,o3,ae,A3,c3,hj,eL,l3,s6,n3,e3,i3⟩;simp only[List.cons.injEq,Value.int.injEq,Value.bool.injEq,Value.slice.injEq,true_and,and_true]at eL;obtain⟨rfl,rfl,rfl,rfl,rfl⟩:=eL;have b6:C4 ((j:Int)+1)=((j+1:Nat):Int):=by{rw[C2]<;>omega};have af:=B0 ar (B0 l2 l3);refine C1 (fun bq=>?_) (fun b4=>?_);{have D:j<cols:=oo;obtain⟨a,w,ea,X,q0,q1,q2,q3⟩:=ai.qat D;have ad:=B0 af s6.le;refine⟨a,ea,oo,oo,_,_,_,_,_,_,_,_,C0 ad q0,C0 ad q1,C0 ad q2,C0 ad q3,?_⟩;refine s6.call (Ku (m:=1+cols*m+m) (H1 _ _ _ _ af X) (id.mono l3) ((bk j D).mono oo) (d2.mono an) hm ?_);intro s7 A7 n7 c7 g7 l7 i7 a5 b3;refine⟨_,_,_,_,rfl,b3.call (Cr (gl.mono (B0 af l7)).tz (i3.mono l7) i7 (B20 bk j hj) (Zk bk D) hm ?_)⟩;intro A8 n8 c8 g8 l8 i8 aq G;have z7:ZIr g8 ⟨s7,A7,n7,c7⟩ (B4c E cols k j):=i7.mono l8;have hF:∀h' g' o' A2' F,g8.le g'->Sep h' g' o'->NT o' V bt cols (ae++[⟨s7,A7,n7,c7⟩]) u A2' F A2 c2->(∃(j':Nat) (s:Bool) (B:Option aF) (bn bc:Nat) (W o3:aD) (C:List IV) (A1:Option aF) (c1:Nat),j'<=cols/\[I (C4 ((j:Int)+1)),.bool false,.slice A8 n8 c8]=[I (j':Int),.bool s,.slice B bn bc]/\g2.le W/\Sep h' W o3/\NT o3 V bt cols C u A1 c1 A2 c2/\EsOk W E cols k C (B4c E cols k) j'/\ZI W s B bn bc (B3g E cols k j':Int))/\cols-(iAt [I (C4 ((j:Int)+1)),.bool false,.slice A8 n8 c8] 0).toNat<cols-(iAt [I (j:Int),.bool bs,.slice bA bn bc] 0).toNat:=by{intro h' g' o' A2' F H s' n';rw[b6];refine⟨⟨j+1,false,A8,n8,c8,g',o',_,A2',F,oo,rfl,B0 l3 (B0 l7 (B0 l8 H)),s',n',((e3.mono (B0 l7 l8)).push z7).mono H,i8.mono H⟩,by simp only[O8];omega⟩};have ac:ae.length<=100000000:=by{have:=e3.len;omega};refine⟨_,_,_,_,rfl,_,n3.cp G,_,rfl,_,_,_,n3.c1 G,⟨_,n3.cp G,?_⟩,?_⟩;{exact n3.buildE G ⟨s7,A7,n7,c7⟩ ac hF fun B m d M lp cp n=>⟨_,_,_,rfl,lp,n fun A2 c2 h2 _ q=>⟨_,_,_,rfl,_,rfl,q⟩⟩};·exact n3.buildE G ⟨s7,A7,n7,c7⟩ ac hF fun B m d M lp cp n=>⟨_,_,_,rfl,lp,⟨_,cp,n fun A2 c2 h2 _ q=>⟨_,_,_,rfl,_,rfl,q⟩⟩,n fun A2 c2 h2 ak q=>⟨_,_,_,rfl,_,ak,_,rfl,q⟩⟩};·have D:j=cols:=oo;subst D;have hg:((B3g E j k j:Nat):Int)=0↔B3g E j k j=0:=oo;refine⟨fun L M=>∃(s:Bool) (B:Option aF) (bn bc:Nat) (g4:aD),L=[.bool s,.slice B bn bc]/\W.le g4/\Sep M g4 o3/\ZI g4 s B bn bc (A3b E j k:Int),?_,?_⟩;{refine s6.call (G2 i3 ?_);intro a5 s7;refine⟨_,rfl,C1 (fun e=>?_) (fun e=>?_)⟩;{refine s7.call (Eu oo oo ?_);intro S A8 n8 c8 g8 l8 i8 aq G;refine⟨_,_,_,_,rfl,_,_,_,_,g8,rfl,l8,G,?_⟩;have:A3b E j k=1:=by{unfold A3b;grind};grind};·refine⟨_,_,_,_,W,rfl,B7 _,s7,?_⟩;have:A3b E j k=B3g E j k j:=by{unfold A3b;grind};grind};·rintro cs cA cn cc a5 ⟨bl,b5,bv,bx,g4,eL,l4,s7,ic⟩;obtain⟨rfl,rfl,rfl,rfl⟩:cs=bl/\cA=b5/\cn=bv/\cc=bx:=gz0;have e4:=e3.mono l4;have a9:=n3.c1 s7;rw[e4.len]at a9;have ay:ae≠[]:=by{rintro rfl;have:=e4.len;grind};obtain⟨N,ao,rB⟩:=n3.oe.rowB ay;subst ao;have cl:k*j+j<=c3:=by{have:=n3.oe.1;rw[e4.len]at this;exact this};have bg:(((k*j:Nat):Int)).toNat=k*j:=rfl;have ba:V3 (some ⟨N,0,none⟩) c3 ((((k*j:Nat):Int)).toNat) 2=some ⟨N,k*j*2,none⟩:=by{rw[bg,Ot oo,D6,aI]};have ax:k*j+j-(((k*j:Nat):Int)).toNat=j:=oo;refine⟨_,n3.cp s7,_,rfl,_,_,_,a9,⟨oo,oo⟩,?_⟩;rw[ba,ax];refine⟨fun L M=>∃(p:Nat) (g o:aD) (C:List IV),p<=j/\L=[I (p:Int)]/\g4.le g/\Sep M g o/\NT o V bt j C u (some ⟨N,0,none⟩) c3 A2 c2/\EsOk g E j k C (fun b=>if b<p then A4e E j k b else B4c E j k b) j,fun L _=>j-(iAt L 0).toNat,⟨0,g4,o3,ae,oo,rfl,B7 _,s7,n3,e4.congr fun b hb=>oo⟩,?_⟩;rintro z aq ⟨p,g5,o5,Q,ci,eL,l5,S,t,e5⟩;obtain rfl:z=(p:Int):=gz0;have be:C4 ((p:Int)+1)=((p+1:Nat):Int):=by{rw[C2]<;>omega};have bh:C4 (((k*j:Nat):Int)+(p:Int))=((k*j+p:Nat):Int):=by{rw[C2]<;>omega};have a8:=t.c1 S;rw[e5.len]at a8;have bz:=Sp E j k;refine C1 (fun bq=>?_) (fun b4=>?_);{have D:p<j:=oo;obtain⟨w,ew,X⟩:=e5.last p D;rw[iN (bM p)]at X;obtain⟨cg,aj,bo⟩:=t.oe.rowB gz0;simp only[aL,aT,and_true]at aj;subst aj;have ah:k*j+p<Q.length:=gz0;have ce:Q[k*j+p]=w:=by{grind};have ha:k*j*2+p*2=(k*j+p)*2:=by{rw[bH]};have cell:∀x v,(enc w)[x]? = some v->aq.cell? (aC (aC ⟨N,k*j*2,none⟩ (((p:Int)).toNat*2)) x)=some v:=by{intro x v hx;refine S.cell ?_;rw[D6,D6];show o5.cell? ⟨N,k*j*2+p*2+x,none⟩=_;rw[ha];exact bo.cell ah gz0};refine⟨_,rfl,oo,oo,_,_,_,_,cell 0 _ rfl,cell 1 _ rfl,_,t.cp S,_,rfl,_,_,_,a8,?_⟩;refine S.call (T1 X (ic.mono l5) (Zk bk D) (A0l bk) hm oo ?_);intro s9 A9 n9 c9 g9 l9 i9 a6 a4;refine⟨_,_,_,_,rfl,S.le_le a4 l9,_,rfl,oo,oo,?_⟩;rw[bh];refine OwnSl.store Sw (y:=(⟨s9,A9,n9,c9⟩:IV)) rfl a4 t.oe ah rfl ?_;intro b9 br bm a0 ko;obtain⟨x1,ct⟩:=t.hp;obtain⟨x2,bf⟩:=t.ht;have b1:V≠N:=fun e=>t.a1.1 (by rw[e]);have b2:bt≠N:=fun e=>t.a1.2 (by rw[e]);rw[be];refine⟨⟨p+1,g9,br,Q.set (k*j+p) ⟨s9,A9,n9,c9⟩,oo,rfl,B0 l5 l9,bm,⟨⟨x1,gz0⟩,⟨x2,gz0⟩,a0,t.os.keep fun b x hb hx=>by rw[ko b (fun e=>t.a3 N rfl gz0)];exact hx,t.ne,t.a1,t.a2,t.a3⟩,((e5.mono l9).set D (show ZIr g9 ⟨s9,A9,n9,c9⟩ (A4e E j k p)from i9)).congr fun b hb=>?_⟩,by simp only[O8];omega⟩;grind};·have bw:p=j:=oo;subst bw;have eN:EsOk g5 E p (k+1) Q (fun _=>0) 0:=e5.next (fun b hb=>oo) _;have sS:=A4d (E:=E) (cols:=p) (i:=k) bk;have fr:∀(gg:aD) (w:QV),g5.le gg->RQ gg w (aZ (Di (A4m E p k) p:Int) (A3b E p k:Int))->∀h' g' o' A2' F,gg.le g'->Sep h' g' o'->NT o' V bt p Q (u++[w]) (some ⟨N,0,none⟩) c3 A2' F->∃(O o1:aD) (C:List IV) (u:List QV) (A1:Option aF) (c1:Nat) (A2:Option aF) (c2:Nat),g0.le O/\Sep h' O o1/\NT o1 V bt p C u A1 c1 A2 c2/\EsOk O E p (k+1) C (fun _=>0) 0/\u.length=k+1/\Row RQr O u (k+1) (Wc E p):=by{intro gg w az X h' g' o' A2' F H s' n';have ag:O.le g':=B0 l2 (B0 l3 (B0 l4 (B0 l5 (B0 az H))));refine⟨g',o',Q,u++[w],_,c3,A2',F,B0 a7 ag,s',n',eN.mono (B0 az H),gz0,?_⟩;have bj:Row RQr g' u u.length (Wc E p):=by{rw[aa];exact rs.mono H1 ag};have:=bj.push (w:=w) (by rw[aa];exact H1 _ _ _ _ H X);grind};have bd:=(gl.mono (B0 af (B0 l4 l5))).tz;have bb:=(id.mono (B0 l3 (B0 l4 l5)));have am:u.length<=100000000:=oo;refine⟨_,t.cp S,_,rfl,_,_,_,t.c2 S,⟨_,t.cp S,?_⟩,?_⟩;{refine S.call (Q5 bd bb (ic.mono l5) (d2.mono an) (A0l bk) hm ?_);intro w gf lf X a6 s9;refine⟨_,_,_,_,_,_,_,_,rfl,S.le_le s9 lf,?_⟩;exact t.buildS s9 w am (fr gf w lf X) fun B m d M lp cp n=>⟨_,_,_,rfl,lp,n fun A2 c2 h2 _ q=>⟨_,_,_,rfl,_,rfl,q⟩⟩};·refine S.call (Q5 bd bb (ic.mono l5) (d2.mono an) (A0l bk) hm ?_);intro w gf lf X a6 s9;refine⟨_,_,_,_,_,_,_,_,rfl,S.le_le s9 lf,⟨_,t.cp s9,?_⟩,?_⟩;{exact t.buildS s9 w am (fr gf w lf X) fun B m d M lp cp n=>⟨_,_,_,rfl,lp,n fun A2 c2 h2 _ q=>⟨_,_,_,rfl,_,rfl,q⟩⟩};·exact t.buildS s9 w am (fr gf w lf X) fun B m d M lp cp n=>⟨_,_,_,rfl,lp,⟨_,cp,n fun A2 c2 h2 _ q=>⟨_,_,_,rfl,_,rfl,q⟩⟩,n fun A2 c2 h2 ak q=>⟨_,_,_,rfl,_,ak,_,rfl,q⟩⟩};·rintro M ⟨O,o1,C,u,A1,c1,A2,c2,lg,s1,R,e1,aa,rs⟩;refine⟨_,R.cp s1,?_⟩;have ac:C.length=rows*cols:=by{rw[e1.len];rfl};have b7:0<rows*cols:=Nat.mul_pos oo oo;obtain⟨N,ao,rE⟩:=R.oe.rowB gz0;obtain⟨bS,bu,rS⟩:=R.os.rowB gz0;subst ao bu;obtain⟨x2,bf⟩:=R.ht;refine hK M O o1 ⟨bt,N,bS,rows,cols,c1,c2⟩ (B0 l0 lg) ⟨s1,fun(e:bt=N)=>R.a1.2 (by rw[<- e]),fun(e:bt=bS)=>R.a2.2 (by rw[<- e]),fun(e:N=bS)=>R.a3 N rfl (by rw[e]),⟨x2,gz0⟩,⟨C,rE,ac,fun i j hi hj=>e1.rows i j hi hj⟩,⟨u,rS,aa,rs⟩,by rw[<- ac];exact R.oe.1,by rw[<- aa];exact R.os.1,⟨hr2,hc2⟩,hc⟩ rfl rfl
end
def C36(c:Array aN):Prop:=∀(i:Nat) (n:Int),c[i]? ≠ some (Value.int .u64 n)
def SlI.without{h:aD}{A:Option aF}{xs:List Int}{b:Nat}{c:Array aN}{e:aK}(hb:h b=some (.cells c e))(hc:C36 c)(s:SlI .u64 h A xs):SlI .u64 (h.without b) A xs:=by rcases s with s|⟨a,k,f⟩;{exact .inl s};·by_cases g:xs=[];{subst g;exact SlI.nil};·right;refine⟨a,k,fun i v l=>?_⟩;have d:=f i v l;have j:a.block≠b:=by{rintro rfl;obtain⟨x,g⟩:∃x,v= .int .u64 x:=by{grind};subst g;unfold Heap.cell? at d;rw[Vr,hb]at d;simp only at d;split at d;{cases d};·exact hc _ _ d};unfold Heap.cell? at d ⊢;rw[Vr]at d ⊢;unfold Heap.without;grind
def ZI.without{h:aD}{s:Bool}{A:Option aF}{n c:Nat}{z:Int}{b:Nat}{cs:Array aN}{e:aK}(hb:h b=some (.cells cs e))(hc:C36 cs)(i:ZI h s A n c z):ZI (h.without b) s A n c z:=by obtain⟨d,⟨k,l,g,f⟩,j⟩:=i;exact⟨d,⟨k,l,SlI.without hb hc g,f⟩,j⟩
def RQ.without{h:aD}{w:QV}{q:Rat}{b:Nat}{cs:Array aN}{e:aK}(hb:h b=some (.cells cs e))(hc:C36 cs)(i:RQ h w q):RQ (h.without b) w q:=⟨ZI.without hb hc i.num,ZI.without hb hc i.den⟩
def A2c(xs:List QV):C36 (xs.flatMap enc).toArray:=by intro i n h;have g:(xs.flatMap enc)[i]? = some (.int .u64 n):=gz0;have e:=List.mem_of_getElem? g;obtain⟨x,_,f⟩:=List.mem_flatMap.1 e;have d:(.int .u64 n:aN)∈[.bool x.s,.slice x.A x.n x.c,.bool x.s2,.slice x.A2 x.n2 x.c2]:=f;grind
def Sep.grab{h g o:aD}(s:Sep h g o){b:Nat}{x:Obj}(hb:g b=some x):Sep h (g.without b) (o.put b x):=by refine⟨fun k y e=>?_,fun k e=>?_,fun k y e=>?_⟩;{by_cases c:k=b;{subst c;rw[C3]at e;cases e;exact s.le k _ hb};·rw[B9 _ _ c]at e;exact s.own k y e};{by_cases c:k=b;{subst c;rw[C3]at e;cases e};·rw[B9 _ _ c]at e;unfold Heap.without;rw[iN c];exact s.rest k e};·by_cases c:k=b;{subst c;exact P7 _ _};·rw[B9 _ _ c]at e;unfold Heap.without;rw[iN c];exact s.dis k y e
def Vw{h g:aD}{b:Nat}(l:h.le g)(hb:h b=none):h.le (g.without b):=fun k x e=>by have c:k≠b:=gz0;unfold Heap.without;rw[iN c];exact l k x e
def Tab.grab{h g o:aD}{T:Tb}{M:Nat->Nat->Int}{S:Nat->Rat}(t:Tab h g o T M S){b:Nat}{cs:Array aN}{e:aK}(hb:g b=some (.cells cs e))(hc:C36 cs):Tab h (g.without b) (o.put b (.cells cs e)) T M S:=by have c:∀k x,o k=some x->k≠b:=by{rintro k x e rfl;rw[t.sep.dis k x e]at hb;cases hb};refine⟨t.sep.grab hb,t.n1,t.n2,t.n3,?_,?_,?_,t.cE,t.cS,t.small,t.pos⟩;{obtain⟨e,q⟩:=t.head;exact⟨e,by rw[B9 _ _ (c _ _ q)];exact q⟩};{obtain⟨u,⟨l,ex,d⟩,m,f⟩:=t.elems;refine⟨u,⟨l,ex,by rw[B9 _ _ (c _ _ d)];exact d⟩,m,fun i j n r=>?_⟩;obtain⟨w,e,p⟩:=f i j n r;exact⟨w,e,ZI.without hb hc p⟩};·obtain⟨s,⟨l,ex,d⟩,m,f⟩:=t.scales;refine⟨s,⟨l,ex,by rw[B9 _ _ (c _ _ d)];exact d⟩,m,fun i n=>?_⟩;obtain⟨w,e,p⟩:=f i n;exact⟨w,e,RQ.without hb hc p⟩
structure MOk (r c:Int) (n:Nat) (ls:Nat->List UInt8) (rows cols:Nat):Prop where
 er:r=rows
 ec:c=cols
 r1:1<=rows
 r2:rows<=64
 c1:1<=cols
 c2:cols<=64
 len:n=rows*cols
 num:∀ i,i<n->IsNum (ls i)
def B32(r c:Int)(n:Nat):Prop:=1<=r/\r<=64/\1<=c/\c<=64/\(n:Int)=r*c
def MOk.of{r c:Int}{n:Nat}{ls:Nat->List UInt8}(s:B32 r c n)(h:∀i,i<n->IsNum (ls i)):MOk r c n ls r.toNat c.toNat:=by obtain⟨f,d,j,e,g⟩:=s;refine⟨o,o,o,o,o,o,?_,h⟩;grind
def MOk.shape{r c:Int}{n:Nat}{ls:Nat->List UInt8}{rows cols:Nat}(m:MOk r c n ls rows cols):B32 r c n:=by obtain⟨rfl,rfl,f,d,i,e,g,_⟩:=m;exact⟨o,o,o,o,o⟩
abbrev Jz(r c:Int)(A:Option aF)(n cap:Nat):aN:=.agg #[I r,I c,.slice A n cap]
def Mx(r c:Int)(n:Nat)(ls:Nat->List UInt8):Prop:=∃rows cols,MOk r c n ls rows cols
def B79{r c:Int}{n:Nat}{ls:Nat->List UInt8}:Mx r c n ls↔B32 r c n/\∀i,i<n->IsNum (ls i):=by constructor;{rintro⟨d,e,m⟩;exact⟨m.shape,m.num⟩};·rintro⟨s,h⟩;exact⟨_,_,MOk.of s h⟩
section
variable {h:aD} {K:VP} {A:Option aF} {n cap m:Nat} {r c:Int} {ls:Nat->List UInt8}
def A05(hn:n<=1000000000)(hK1:B32 r c n->K (.bool true) h)(hK0:¬B32 r c n->K (.bool false) h):aJ prog 197 #[Jz r c A n cap] h K:=by refine(fnk func197 (own:=[1])) ?_;refine C1 (fun i=>C1 (fun d=>C1 (fun l=>C1 (fun f=>?_) (fun e=>hK0 fun s=>e s.2.2.2.1)) (fun e=>hK0 fun s=>e s.2.2.1)) (fun e=>hK0 fun s=>e s.2.1)) (fun e=>hK0 fun s=>e s.1);have k:r*c<=64*64:=Int.mul_le_mul d f o o;have g:0<=r*c:=Int.mul_nonneg o o;have j:C4 (r*c)=r*c:=C2 o o;rw[j];by_cases e:(n:Int)=r*c;{rw[show((n:Int)==r*c)=true from gz0];exact hK1 ⟨i,d,l,f,e⟩};·rw[show((n:Int)==r*c)=false from gz0];exact hK0 fun s=>e s.2.2.2.2
def Z1(gl:Gl h)(rv':RowV SSr h A n ls)(hn:n<=1000000)(hl:LL n ls) (hK1:∀rows cols,MOk r c n ls rows cols->∀b h',Own RQr h h' b n (fun i=>rv (ls i))->K (.tuple #[.slice (some ⟨b,0,none⟩) n n,.bool true]) h') (hK0:¬Mx r c n ls->∀h',h.le h'->K (.tuple #[.slice none 0 0,.bool false]) h'):aJ prog 150 #[Jz r c A n cap] h K:=by refine(fnk func150 (own:=[1])) ?_;refine A05 o (fun s=>⟨_,rfl,?_⟩) (fun s=>⟨_,rfl,hK0 (fun x=>s (B79.1 x).1) h (B7 _)⟩);refine Do gl rv' hn hl (fun d b h' w=>⟨_,_,_,_,rfl,hK1 _ _ (MOk.of s d) b h' w⟩) (fun e h' l=>⟨_,_,_,_,rfl,hK0 (fun x=>e (B79.1 x).2) h' l⟩)
def Lh{f:Nat->Rat}(gl:Gl h)(rq:RowV RQr h A n f)(hn:n<=1000000)(hs:∀i,i<n->Sz m (f i))(hm:m<=40000000) (hK:∀b h',Own SSr h h' b n (fun i=>F3 (f i))->K (Jz r c (some ⟨b,0,none⟩) n n) h'):aJ prog 194 #[I r,I c,.slice A n cap] h K:=by refine(fnk func194 (own:=[6])) ?_;exact Y6 gl rq hn hs hm fun b h' w=>⟨_,_,_,rfl,hK b h' w⟩
end
end Go.Proofs.YtkfhdoblhajcbaaGreatDoor
namespace Go.Proofs.YtkfhdoblhajcbaaGreatDoor
set_option maxRecDepth 20000
def ZrE(n c:Nat)(s:ES):Prop:=∀i j,i<n->s.cs.length<=i->j<c->s.R i j=0
def Xh(n c:Nat)(s:ES)(h:s.cs.length<=n):s.cs.length<=Hj n c s/\Hj n c s<=n/\(Hj n c s<n->s.R (Hj n c s) c≠0)/\(∀i,s.cs.length<=i->i<Hj n c s->s.R i c=0):=by have f:=A7f (fun i=>decide (s.R i c≠0)) (n-s.cs.length) s.cs.length;have d:=Sm (fun i=>decide (s.R i c≠0)) (n-s.cs.length) s.cs.length;have e:=A08 (fun i=>decide (s.R i c≠0)) (n-s.cs.length) s.cs.length;have j:fnd (fun i=>decide (s.R i c≠0)) (n-s.cs.length) s.cs.length=Hj n c s:=rfl;rw[j]at f d e;refine⟨f.1,o,fun l=>?_,fun i k g=>?_⟩;{have:=e o;simpa using this};·have:=d i k g;simpa using this
def B5d{R:Nat->Nat->Rat}{k c:Nat}(hz:∀b,b<c->R k b=0):elimE R k c=Ch R k c:=by funext a b;unfold elimE Ch;by_cases e:a=k;{rw[iP e,iP e]};·rw[iN e,iN e];split;{rename_i d;rcases d with d|d;{rw[d];grind};·rw[hz b d];grind};·rfl
structure EqA (n w c:Nat) (A:Nat->Nat->Rat) (s:ES):Prop where
 len:s.cs.length<=n
 zero:ZrE n c s
 lt:∀ x∈s.cs,x<c
 elim:∃ B,Elim n w B s.R (fun m=>s.cs.getD m 0) s.cs.length/\(∀ i,i<n->∃ i',i'<n/\∀ j,B i' j=A i j)/\(∀ i,i<n->∃ i',i'<n/\∀ j,B i j=A i' j)
 comb:∃ T:Nat->Nat->Rat,∀ i j,i<n->j<w->s.R i j=sm n fun l=>T i l*A l j
def A40{k l i:Nat}:xch k l (xch k l i)=i:=by unfold xch;(repeat' split);all_goals omega
def EqA.start(n w:Nat)(A:Nat->Nat->Rat):EqA n w 0 A ⟨A,[],1⟩:=by refine⟨aP _,fun i j _ _ f=>o,fun x e=>(by cases e),⟨A,Elim.start,fun i c=>⟨i,c,fun _=>rfl⟩,fun i c=>⟨i,c,fun _=>rfl⟩⟩,⟨fun i l=>if l=i then 1 else 0,fun i j c _=>?_⟩⟩;show A i j=sm n fun l=>(if l=i then(1:Rat)else 0)*A l j;rw[N6 c fun l _ d=>by rw[iN d,cT],iP rfl,Rat.one_mul]
def EqA.step{n w c:Nat}{A:Nat->Nat->Rat}{s:ES}(h:EqA n w c A s)(hc:c<w):EqA n w (c+1) A (Al n c s):=by obtain⟨M,f2,f3,f4⟩:=Xh n c s h.len;unfold Al;by_cases C:s.cs.length<n;{rw[iP C];by_cases t:Hj n c s<n;{rw[iP t];have G:=f3 t;generalize Hj n c s=r at *;obtain⟨B,E,H,N⟩:=h.elim;obtain⟨T,Q⟩:=h.comb;have hz:∀b,b<c->s.R r b=0:=fun b L=>h.zero r b t M L;have D:=Jh s.cs.length r;have q:∀i,i<n->xch s.cs.length r i<n:=fun i k=>He C t k;have y:(s.cs++[c]).length=s.cs.length+1:=by{simp};have S:elimE (fun i=>s.R (xch s.cs.length r i)) s.cs.length c=Ch (fun i=>s.R (xch s.cs.length r i)) s.cs.length c:=B5d fun b L=>by{rw[D];exact hz b L};refine⟨by show(s.cs++[c]).length<=n;omega,fun i j k p z=>?_,fun x d=>?_,⟨fun i=>B (xch s.cs.length r i),?_,fun i k=>?_,fun i k=>?_⟩,?_⟩;{show elimE (fun i=>s.R (xch s.cs.length r i)) s.cs.length c i j=0;have V:s.cs.length+1<=i:=by{have:(s.cs++[c]).length<=i:=p;omega};have F:=A9u (i:=i) M (show s.cs.length<=i from o);unfold elimE;rw[iN o];simp only[D];by_cases e:j=c;{subst e;split;{rename_i u;rcases u with u|u;{exact u};·omega};·grind};·rw[iP (.inr o)];exact h.zero _ j (q i k) F o};{rcases List.mem_append.1 d with d|d;{have:=h.lt x d;omega};·simp at d;omega};{show Elim n w _ (elimE (fun i=>s.R (xch s.cs.length r i)) s.cs.length c) _ (s.cs++[c]).length;rw[S,y];refine((E.swap M t).cs_congr fun m hm=>(Og s.cs c m hm).symm).step C hc (A2s _ _) ?_;show s.R (xch s.cs.length r s.cs.length) c≠0;rw[D];exact G};{obtain⟨O,u,X⟩:=H i k;exact⟨xch s.cs.length r O,q O u,fun j=>by show B (xch _ _ (xch _ _ O)) j=_;rw[A40];exact X j⟩};{exact N _ (q i k)};·refine⟨fun i l=>if i=s.cs.length then T r l/s.R r c else T (xch s.cs.length r i) l-s.R (xch s.cs.length r i) c*(T r l/s.R r c),fun i j k z=>?_⟩;show elimE (fun i=>s.R (xch s.cs.length r i)) s.cs.length c i j=_;rw[S];unfold Ch;simp only[D];have t1:sm n (fun l=>T r l/s.R r c*A l j)=s.R r j/s.R r c:=by{rw[Q r j t z,cC,aQ _ (s.R r c)⁻¹,<- J3];exact C5 fun l _=>by rw[cC];grind};by_cases e:i=s.cs.length;{simp only[iP e];exact t1.symm};·simp only[iN e];have W:=Q (xch s.cs.length r i) j (q i k) z;rw[<- t1,W,<- J3];have:∀f g:Nat->Rat,sm n f-sm n g=sm n fun l=>f l-g l:=fun f g=>by{rw[Rat.sub_eq_add_neg,<- Hh,<- Y7];exact C5 fun l _=>(Rat.sub_eq_add_neg _ _).symm};rw[this];exact C5 fun l _=>by grind};·rw[iN t];refine⟨h.len,fun i j k p z=>?_,fun x d=>by have:=h.lt x d;omega,h.elim,h.comb⟩;show s.R i j=0;by_cases e:j=c;{rw[e];exact f4 i p o};·exact h.zero i j k p o};·rw[iN C];exact⟨h.len,fun i j k p z=>o,fun x d=>by have:=h.lt x d;omega,h.elim,h.comb⟩
def EqA.run{n w:Nat}(A:Nat->Nat->Rat):∀c,c<=w->EqA n w c A (Pd n ⟨A,[],1⟩ c):=by
 intro c
 induction c with
 |zero=>exact fun _=>EqA.start n w A
 |succ c ih=>exact fun d=>(ih o).step o
def Xg(x:Nat->Rat)(f:Nat->Rat):Nat->List Nat->Nat->Rat
 |_,[]=>x
 |i,c::cs=>Xg (fun j=>if j=c then f i else x j) f (i+1) cs
def A88(f:Nat->Rat):∀(cs:List Nat) (x:Nat->Rat) (i j:Nat),j∉cs->Xg x f i cs j=x j:=by
 intro cs
 induction cs with
 |nil=>intros;rfl
 |cons c cs ih=>
  intro x i j d;rw[Xg,ih _ _ _ fun h=>d (List.mem_cons_of_mem _ h)];show(if j=c then f i else x j)=x j;rw[iN fun e=>d (by rw[e];exact List.mem_cons_self ..)]
def B0c(f g:Nat->Rat){w:Nat}{cs:List Nat}(nd:cs.Nodup)(hlt:∀x∈cs,x<w):sm w (fun j=>g j*Xg (fun _=>0) f 0 cs j)=sm cs.length fun m=>g (cs.getD m 0)*f m:=by
 induction hl:cs.length generalizing cs with
 |zero=>
  have:cs=[]:=cG hl;subst this;rw[sm];exact K7 fun j _=>by show g j*(0:Rat)=0;exact aX _
 |succ k ih=>
  obtain⟨ds,d,rfl⟩:∃ds d,cs=ds++[d]:=⟨cs.dropLast,cs.getLast (by intro e;rw[e]at hl;cases hl),(List.dropLast_concat_getLast _).symm⟩;have n:ds.length=k:=by simpa using hl
  rw[List.nodup_append]at nd;have s:d∉ds:=fun h=>nd.2.2 d h d (by simp) rfl
  have t:∀j,Xg (fun _=>0) f 0 (ds++[d]) j=(if j=d then f k else 0)+Xg (fun _=>0) f 0 ds j:=by
   intro j
   have key:∀(l:List Nat) (x:Nat->Rat) (i:Nat),d∉l->Xg x f i (l++[d]) j=if j=d then f (i+l.length)else Xg x f i l j:=by
    intro l
    induction l with
    |nil=>intro x i _;rfl
    |cons c l ih=>
     intro x i r;rw[List.cons_append,Xg,ih _ _ fun h=>r (List.mem_cons_of_mem _ h),Xg,List.length_cons];have:i+1+l.length=i+(l.length+1):=o;rw[this]
   rw[key ds _ 0 s,aI,n];by_cases e:j=d;·rw[iP e,iP e,e,A88 f ds _ _ _ s];exact(aY _).symm
   ·rw[iN e,iN e];exact(cU _).symm
  have y:sm w (fun j=>g j*Xg (fun _=>0) f 0 (ds++[d]) j)=sm w (fun j=>g j*(if j=d then f k else 0))+sm w fun j=>g j*Xg (fun _=>0) f 0 ds j:=by
   rw[<- Y7];exact C5 fun j _=>by rw[t];grind
  have q:d<w:=hlt d (by simp);rw[y,ih nd.1 (fun x z=>hlt x (by simp[z])) n,N6 q fun j _ p=>by rw[iN p,aX],iP rfl,sm];have u:(ds++[d]).getD k 0=d:=by rw[<- n];exact A2s _ _
  rw[u,Rat.add_comm];congr 1;exact C5 fun m A=>by rw[Og ds d m o]
def EqA.none{n w:Nat}{A:Nat->Nat->Rat}{s:ES}(h:EqA n (w+1) w A s){i:Nat}(hi:i<n)(hk:s.cs.length<=i)(hne:s.R i w≠0):∃y:Nat->Rat,(∀j,j<w->sm n (fun l=>y l*A l j)=0)/\sm n (fun l=>y l*A l w)=1:=by obtain⟨T,e⟩:=h.comb;have d:∀j,j<w+1->sm n (fun l=>T i l/s.R i w*A l j)=s.R i j/s.R i w:=by{intro j c;rw[e i j hi c,cC,aQ _ (s.R i w)⁻¹,<- J3];exact C5 fun l _=>by rw[cC];grind};refine⟨fun l=>T i l/s.R i w,fun j c=>?_,?_⟩;{rw[d j o,h.zero i j hi hk c];grind};·rw[d w o];grind
def EqA.sol{n w:Nat}{A:Nat->Nat->Rat}{s:ES}(h:EqA n (w+1) w A s)(nd:s.cs.Nodup)(h0:∀i,i<n->s.cs.length<=i->s.R i w=0){i:Nat}(hi:i<n):sm w (fun j=>A i j*Xg (fun _=>0) (fun m=>s.R m w) 0 s.cs j)=A i w:=by obtain⟨B,E,k,_⟩:=h.elim;obtain⟨c,d,e⟩:=k i hi;rw[B0c _ _ nd h.lt];rw[<- e w,C5 (g:=fun m=>B c (s.cs.getD m 0)*s.R m w) fun m _=>by rw[e]];by_cases f:c<s.cs.length;{exact(E.top c w f o).symm};·rw[E.bot c w d o o,h0 c d o,cU]
def mtx(E:Nat->Rat)(cols:Nat):Nat->Nat->Rat:=fun i j=>E (i*cols+j)
def elE(E:Nat->Rat)(rows cols c:Nat):ES:=Pd rows ⟨mtx E cols,[],1⟩ c
def elP(E:Nat->Rat)(rows cols c:Nat):PS:=Ia rows ⟨A4e E cols,Wc E cols,[],1,1⟩ c
def A34(E:Nat->Rat){rows cols c:Nat}(hc:c<=cols):ERel rows cols c (mtx E cols) (elE E rows cols c) (elP E rows cols c):=(ERel.start (fun i j _ d=>B7m E cols i d) (fun i _=>by have:=Se E cols i;grind)).run c hc
def A5o(E:Nat->Rat){rows cols c:Nat}(hc:c<=cols):(elP E rows cols c).cs=(elE E rows cols c).cs:=(A34 E hc).cs.symm
def A7l(E:Nat->Rat){rows cols c:Nat}(hc:c<=cols){i j:Nat}(hi:i<rows)(hj:j<cols)(h:i<(elE E rows cols c).cs.length\/j<c):aZ ((elP E rows cols c).M i j) (elP E rows cols c).last=(elE E rows cols c).R i j:=by have r:=A34 E hc (rows:=rows);have e:=r.val i j hi hj;have f:=S3 r.last;rw[bJ,e];by_cases d:i<(elE E rows cols c).cs.length;{grind};·rw[iN d,r.zero i j hi o o,aX,aX];grind
def bnd(cols m:Nat):Nat:=1+cols*m+m
def C2s{E:Nat->Rat}{rows cols m:Nat}(h:∀i,i<rows*cols->Sz m (E i)):ZbP rows cols (bnd cols m) (bnd cols m) ⟨A4e E cols,Wc E cols,[],1,1⟩:=by have e:∀i,i<rows->∀j,j<cols->Sz m (E (i*cols+j)):=fun i g j f=>h _ (R8 g f);refine⟨fun a b d c=>?_,?_,fun a d=>A4d (e a d),aP _⟩;{show ZB (3^0*bnd cols m) (A4e E cols a b);rw[Nat.pow_zero,cD];exact B7l (e a d) c};·show ZB (3^0*bnd cols m) 1;exact ZB.one (by unfold bnd;omega)
def A33{E:Nat->Rat}{rows cols m c:Nat}(h:∀i,i<rows*cols->Sz m (E i))(hc:c<=cols):ZbP rows cols (bnd cols m) (bnd cols m) (elP E rows cols c):=(C2s h).run (by unfold bnd;omega) c hc
def B71(E:Nat->Rat)(rows cols c:Nat):(elP E rows cols c).cs.length<=c:=B48 _ _ rfl c
def A0d(E:Nat->Rat)(rows cols c:Nat)(x:Nat):3^(elP E rows cols c).cs.length*x<=3^c*x:=aG _ (bG dc (B71 E rows cols c))
def A5n(E:Nat->Rat)(rows cols c:Nat):(elP E rows cols c).last≠0:=(A1q rows _ (show(1:Int)≠0 from dc) (.inl rfl) (aP _) c).1
structure Own2 (h h':aD) (b n:Nat) (f:Nat->List UInt8) (A:Option aF) (cap:Nat) (l:List Int):Prop where
 ex:∃ g o xs,h.le g/\Sep h' g o/\RowX o b xs/\xs.length=n/\Row SSr g xs n f/\OwnSl o 3 A cap l/\A≠some ⟨b,0,none⟩
def Own2.le{h h':aD}{b n:Nat}{f:Nat->List UInt8}{A:Option aF}{cap:Nat}{l:List Int}(w:Own2 h h' b n f A cap l):h.le h':=by obtain⟨g,o,d,c,s,_⟩:=w.ex;exact B0 c s.le
def Own2.ints{h h':aD}{b n:Nat}{f:Nat->List UInt8}{A:Option aF}{cap:Nat}{l:List Int}(w:Own2 h h' b n f A cap l):SlF h' A l/\l.length<=cap:=by obtain⟨g,o,d,i,s,r,e,q,c,_⟩:=w.ex;exact⟨c.slF s.ole,c.1⟩
section
variable {h g o:aD} {T:Tb} {M:Nat->Nat->Int} {S:Nat->Rat}
def Tab.fat(t:Tab h g o T M S){k:Nat}(hk:k<T.rows*T.cols):∃w:IV,ZIr g w (M (k/T.cols) (k%T.cols))/\o.cell? (aC (aC ⟨T.bE,0,none⟩ (k*2)) 0)=some (.bool w.s)/\o.cell? (aC (aC ⟨T.bE,0,none⟩ (k*2)) 1)=some (.slice w.A w.n w.c):=by have d:=t.pos;have f:k/T.cols<T.rows:=aW gz0;obtain⟨w,i,c0,c1⟩:=t.ato f (cK k d);have e:k/T.cols*T.cols*2+k%T.cols*2=k*2:=by{rw[<- bH,cV (k/T.cols),Nat.div_add_mod]};rw[D6,D6,e]at c0 c1;refine⟨w,i,?_,?_⟩;{rw[D6,D6,aI];exact c0};·rw[D6,D6,aI];exact c1
end
section
variable {h:aD} {K:VP} {A:Option aF} {n cap m:Nat} {r c:Int} {ls:Nat->List UInt8}
abbrev rvs(ls:Nat->List UInt8):Nat->Rat:=fun i=>rv (ls i)
def Qz{E:Nat->Rat}{rows cols cc nq:Nat}(gl:Gl h)(rq:RowV RQr h A (rows*cols) E)(hcap:rows*cols<=cap)(hr:1<=rows)(hr2:rows<=10000)(hc:1<=cols)(hc2:cols<=10000)(hcc:cc<=cols)(hs:∀i,i<rows*cols->Sz m (E i))(hnq:∀k,k<=cc->(elP E rows cols k).cs.length<=nq)(hm:2*(3^nq*bnd cols m)+1<=100000000){K:VP} (hK:∀T h1,aJ prog 152 #[.pointer (some ⟨T.bt,0,none⟩),I (cc:Int)] h1 (fun r h'=>∃g' o' A' cap' w,h.le g'/\Tab h' g' o' T (elP E rows cols cc).M (elP E rows cols cc).S/\OwnSl o' 3 A' cap' (zs (elP E rows cols cc).cs)/\B61 T A'/\ZIr g' w (elP E rows cols cc).last/\ r= .tuple #[.slice A' (elP E rows cols cc).cs.length cap',w.v,I (elP E rows cols cc).sgn])->h.le h1->T.rows=rows->T.cols=cols->K (.pointer (some ⟨T.bt,0,none⟩)) h1):aJ prog 151 #[.slice A (rows*cols) cap,I (cols:Int)] h K:=by have h1:bnd cols m<=3^nq*bnd cols m:=Nat.le_mul_of_pos_left _ (Nat.pow_pos dc);have p:bnd cols m=1+cols*m+m:=rfl;refine Ns (m:=m) gl rq hcap hr hr2 hc hc2 hs o ?_;intro h' g' o' T j t d y;refine hK T h' ?_ (B0 j t.sep.le) d y;have z:=C2s hs;refine A1v (m:=bnd cols m) (l:=bnd cols m) t o o (by rw[d];exact hnq) hm gz0 ?_;intro p n u A2 c w q e g s ko f;rw[d]at e g f ⊢;exact⟨n,u,A2,c,w,B0 j q,e,g,s,f,rfl⟩
def Ks{E:Nat->Rat}{rows cols cc:Nat}(gl:Gl h)(rq:RowV RQr h A (rows*cols) E)(hcap:rows*cols<=cap)(hr:1<=rows)(hr2:rows<=10000)(hc:1<=cols)(hc2:cols<=10000)(hcc:cc<=cols)(hs:∀i,i<rows*cols->Sz m (E i))(hm:2*(3^cc*bnd cols m)+1<=100000000){K:VP} (hK:∀T h1,aJ prog 152 #[.pointer (some ⟨T.bt,0,none⟩),I (cc:Int)] h1 (fun r h'=>∃g' o' A' cap' w,h.le g'/\Tab h' g' o' T (elP E rows cols cc).M (elP E rows cols cc).S/\OwnSl o' 3 A' cap' (zs (elP E rows cols cc).cs)/\B61 T A'/\ZIr g' w (elP E rows cols cc).last/\ r= .tuple #[.slice A' (elP E rows cols cc).cs.length cap',w.v,I (elP E rows cols cc).sgn])->h.le h1->T.rows=rows->T.cols=cols->K (.pointer (some ⟨T.bt,0,none⟩)) h1):aJ prog 151 #[.slice A (rows*cols) cap,I (cols:Int)] h K:=Qz gl rq hcap hr hr2 hc hc2 hcc hs (fun k c=>cW (B71 E rows cols k) c) hm hK
def A8p(gl:Gl h)(rv':RowV SSr h A n ls)(hn:n<=1000000)(hl:LL n ls)(hs:∀i,i<n->Sz m (rv (ls i)))(hb:∀rows cols,MOk r c n ls rows cols->2*(3^cols*bnd cols m)+1<=100000000) (hK1:∀rows cols,MOk r c n ls rows cols->∀h',h.le h'->K (.tuple #[I ((elE (rvs ls) rows cols cols).cs.length:Int),I 0]) h') (hK0:¬Mx r c n ls->∀h',h.le h'->K (.tuple #[I 0,I 1]) h'):aJ prog 109 #[Jz r c A n cap] h K:=by refine(fnk func109 (os:=[(4,[0,1,2,4,5,11,3,6,7,8,9,10,12,13,14])]) (own:=[1,7]) (wr:=[152])) ?_;refine Z1 gl rv' hn hl ?_ ?_;{intro rows cols mk b g own;have f:=hb rows cols mk;obtain⟨rfl,rfl,u,s,y,p,rfl,k⟩:=id mk;refine⟨_,_,_,_,rfl,?_⟩;refine Ks (E:=rvs ls) (cc:=cols) (m:=m) (gl.mono own.le) (own.vis H1) (aE _) o o o o (aE _) hs f ?_;intro T F d B M G;refine⟨_,rfl,B,?_⟩;refine FCall.mono d ?_;rintro D t ⟨O,H,A3,j,w,q,l,L,N,C,rfl⟩;refine⟨_,_,_,_,_,_,_,_,rfl,?_⟩;rw[A5o _ (aE _)];exact hK1 rows cols mk t (B0 own.le (B0 q l.sep.le))};·intro e g z;exact⟨_,_,_,_,rfl,hK0 e g z⟩
end
def C0q(E:Nat->Rat)(rows cols:Nat):Nat->Rat:=fun k=>(elE E rows cols cols).R (k/cols) (k%cols)
def Own2.of{h g o g5 h7:aD}{b n:Nat}{f:Nat->List UInt8}{A:Option aF}{cap:Nat}{l:List Int}(s:Sep h7 g5 o)(lh:h.le g)(ow:OwnSl o 3 A cap l)(w:Own SSr g g5 b n f):Own2 h h7 b n f A cap l:=by
 obtain⟨q,c,r,z,d,i,B,j⟩:=w.ex;have p:∀k x,c k=some x->(o.join c) k=some x:=fun k x e=>by show(match c k with|some x=>some x|none=>o k)=_;rw[e]
 have G:∀k,c k=none->(o.join c) k=o k:=fun k e=>by show(match c k with|some x=>some x|none=>o k)=_;rw[e]
 have C:∀k x,o k=some x->c k=none:=by
  intro k x e
  cases ho:c k with
  |none=>rfl
  |some y=>have:=s.dis k x e;rw[d.own k y ho]at this;cases this
 refine⟨q,o.join c,r,B0 lh z,s.join d,i.keep (fun x e=>p b x e),B,j,ow.keep fun k x _ e=>gz0,fun H=>?_⟩;obtain⟨e,F⟩:=i;rcases ow.2 with⟨_,D⟩|⟨E,u,t,m,_⟩;·grind
 grind
def Uc(o:aD)(A:Option aF):aD:=fun k=>if A=some ⟨k,0,none⟩then o k else none
def A2a(o:aD)(A:Option aF):(Uc o A).le o:=fun k x e=>by unfold Uc at e;grind
def OwnSl.only{α:Type}[E:Enc α]{o:aD}{e:aK}{A:Option aF}{c:Nat}{xs:List α}(w:OwnSl o e A c xs):OwnSl (Uc o A) e A c xs:=w.keep fun b x d f=>by unfold Uc;grind
def Ub(o:aD){A:Option aF}{k:Nat}(h:A≠some ⟨k,0,none⟩):Uc o A k=none:=by unfold Uc;grind
section
variable {h:aD} {K:VP} {A:Option aF} {n cap m:Nat} {r c:Int} {ls:Nat->List UInt8}
def A2h(gl:Gl h)(rv':RowV SSr h A n ls)(hn:n<=1000000)(hl:LL n ls)(hs:∀i,i<n->Sz m (rv (ls i)))(hb:∀rows cols,MOk r c n ls rows cols->2*(3^cols*bnd cols m)+1<=40000000) (hK1:∀rows cols,MOk r c n ls rows cols->∀b h' A' cap',Own2 h h' b n (fun k=>F3 (C0q (rvs ls) rows cols k)) A' cap' (zs (elE (rvs ls) rows cols cols).cs)->K (.tuple #[Jz r c (some ⟨b,0,none⟩) n n,.slice A' (elE (rvs ls) rows cols cols).cs.length cap',I 0]) h') (hK0:¬Mx r c n ls->∀h',h.le h'->K (.tuple #[Jz 0 0 none 0 0,.slice none 0 0,I 1]) h'):aJ prog 146 #[Jz r c A n cap] h K:=by refine(fnk func146 [(7,[38],[],[I 0])] (own:=[1,2,9,12]) (wr:=[152])) ?_;refine Z1 gl rv' hn hl ?_ ?_;{intro rows cols mk b h1 own;have W:=hb rows cols mk;obtain⟨rfl,rfl,a4,a0,a1,a3,rfl,av⟩:=id mk;have ol:=own.le;have ov:=own.vis H1;obtain⟨g1,o1,p,X,s1,rx,hx,rr⟩:=own.ex;obtain⟨e1,ad⟩:=id rx;refine⟨_,_,_,_,rfl,?_⟩;refine Ks (E:=rvs ls) (cc:=cols) (m:=m) (gl.mono ol) ov (aE _) oo oo oo oo (aE _) hs oo ?_;intro T h2 R l2 a5 ae;refine⟨_,rfl,?_⟩;refine FCall.mono R ?_;rintro r3 h3 ⟨g3,o3,A3,f,w,l3,t3,ow,ap,iw,rfl⟩;refine⟨_,_,_,_,_,_,_,_,rfl,_,rfl,_,_,_,t3.c1,?_⟩;have l:=A33 (E:=rvs ls) (rows:=rows) (c:=cols) hs (aE _);have az:=A0d (rvs ls) rows cols cols (bnd cols m);have u:=A5n (rvs ls) rows cols cols;have q:∀k,k<rows*cols->aZ ((elP (rvs ls) rows cols cols).M (k/cols) (k%cols)) (elP (rvs ls) rows cols cols).last=C0q (rvs ls) rows cols k:=by{intro k F;have hi:k/cols<rows:=aW gz0;have D:=cK k (show 0<cols from oo);exact A7l (rvs ls) (aE _) hi D (.inr D)};rw[A5o _ (aE _)]at ow ⊢;generalize elP (rvs ls) rows cols cols=st at *;have d:g3 b=some (.cells (p.flatMap enc).toArray e1):=l3 _ _ (s1.own _ _ ad);have an:A3≠some ⟨b,0,none⟩:=by{intro hA;rcases ow.2 with⟨_,h0⟩|⟨b',ay,B,W,_⟩;{grind};·rw[hA]at B;simp only[aL,aT,and_true]at B;subst B;rw[t3.sep.dis _ _ W]at d;cases d};have al:∀k x,o3 k=some x->k≠b:=by{rintro k x e rfl;rw[t3.sep.dis k x e]at d;cases d};have t4:=t3.grab d (A2c p);have ak:ZI (g3.without b) w.s w.A w.n w.c st.last:=ZI.without d (A2c p) iw;have N:g1.le (g3.without b):=Vw (B0 s1.le l3) (s1.dis _ _ ad);have am:OwnSl (o3.put b (.cells (p.flatMap enc).toArray e1)) 3 A3 f (zs (elE (rvs ls) rows cols cols).cs):=ow.keep fun k x _ e=>by{rw[B9 _ _ (al k x e)];exact e};have ah:RowX (o3.put b (.cells (p.flatMap enc).toArray e1)) b p:=RowX.mk;generalize g3.without b=g4 at *;generalize o3.put b (.cells (p.flatMap enc).toArray e1)=o4 at *;have nb:b≠T.bt/\b≠T.bE/\b≠T.bS:=by{obtain⟨⟨x1,y1⟩,⟨x2,y2⟩,⟨x3,y3⟩⟩:=t3.own;grind};refine⟨fun L hp=>∃(k:Nat) (g o:aD) (H:List QV),k<=rows*cols/\L=[I (k:Int)]/\g4.le g/\Tab hp g o T st.M st.S/\RowX o b H/\H.length=rows*cols/\Row RQr g H k (C0q (rvs ls) rows cols)/\(∀j,j≠b->o j=o4 j),fun L _=>rows*cols-(iAt L 0).toNat,⟨0,g4,o4,p,oo,rfl,B7 _,t4,ah,hx,Row.nil,fun _ _=>rfl⟩,?_⟩;rintro z hp ⟨k,g5,o5,H,F,eL,l5,C,ac,hy,aa,ax⟩;obtain rfl:z=(k:Int):=gz0;refine C1 (fun aj=>?_) (fun a2=>?_);{have t:k<rows*cols:=gz0;obtain⟨w5,z5,c0,c1⟩:=C.fat (k:=k) oo;rw[ae]at z5;have hi:k/cols<rows:=aW gz0;have D:=cK k (show 0<cols from oo);refine⟨_,rfl,oo,aj,_,_,_,_,C.sep.cell c0,C.sep.cell c1,?_⟩;refine C.sep.call (Q5 (gl.mono (B0 X (B0 N l5))).tz z5 (ak.mono l5) (l.M _ _ hi D) l.last oo ?_);intro w6 Q G i6 h6 s6;rw[q k t]at i6;refine⟨_,_,_,_,_,_,_,_,rfl,_,rfl,oo,oo,?_⟩;refine S6 Ge (y:=w6) rfl s6 ac (i:=k) oo ?_;intro h7 o7 x7 eo s7 ar;have ko:∀j,j≠b->o7 j=o5 j:=fun j F=>by{rw[eo,B9 _ _ F]};rw[wiS k oo];refine⟨⟨k+1,Q,o7,_,oo,rfl,B0 l5 G,C.keep s7 G (fun j x e aw=>by grind),ar,gz0,(aa.mono H1 G).set oo i6,fun j F=>gz0⟩,by simp only[O8];omega⟩};·have t:k=rows*cols:=gz0;subst t;have ag:OwnSl o5 3 A3 f (zs (elE (rvs ls) rows cols cols).cs):=am.keep fun j x hA e=>by{grind};obtain⟨Q,G,s6⟩:=C.sep.give (A2a o5 A3);obtain⟨e5,aq⟩:=id ac;have ao:Q b=some (.cells (H.flatMap enc).toArray e5):=by{rw[<- s6.rest b (Ub o5 an)];exact C.sep.own _ _ aq};have au:RowV RQr Q (some ⟨b,0,none⟩) (rows*cols) (C0q (rvs ls) rows cols):=⟨H,(RowX.rowB ⟨e5,ao⟩).slF (B7 _),hy,aa.mono H1 G⟩;have V:h.le Q:=B0 X (B0 N (B0 l5 G));have af:∀k,k<rows*cols->Sz (3^st.cs.length*bnd cols m) (C0q (rvs ls) rows cols k):=by{intro k F;have hi:k/cols<rows:=aW gz0;have D:=cK k (show 0<cols from oo);rw[<- q k F];exact U3 u (l.M _ _ hi D) l.last};refine s6.call (Lh (gl.mono V) au hn af oo ?_);intro b2 g7 O h7 s7;exact⟨_,_,_,_,_,rfl,hK1 rows cols mk b2 h7 A3 f (Own2.of s7 V ag.only O)⟩};·intro ai h1 l1;exact⟨_,_,_,_,rfl,hK0 ai h1 l1⟩
end
def A1e:F3 0=[48]:=by rfl
section
variable {h:aD} {K:VP} {A:Option aF} {n cap m:Nat} {r c:Int} {ls:Nat->List UInt8}
end
structure HV where
 A:Option aF
 n:Nat
 c:Nat
abbrev HV.v(s:HV):aN:=.slice s.A s.n s.c
instance:Enc HV:=⟨⟨fun s=>[.slice s.A s.n s.c],1,fun _=>rfl,fun s v hv=>by rw [List.mem_singleton.1 hv];rfl⟩⟩
def RowsV(h:aD)(A:Option aF)(n w:Nat)(M:Nat->Nat->Rat):Prop:=∃hd:List HV,SlF h A hd/\hd.length=n/\∀i,i<n->∃s,hd[i]? = some s/\s.n=w/\w<=s.c/\RowV NQr h s.A w (M i)
def RowsV.mono{h h':aD}{A:Option aF}{n w:Nat}{M:Nat->Nat->Rat}(l:h.le h')(r:RowsV h A n w M):RowsV h' A n w M:=by obtain⟨c,s,e,r⟩:=r;refine⟨c,s.mono l,e,fun i j=>?_⟩;obtain⟨s,d,g,f,r⟩:=r i j;exact⟨s,d,g,f,r.mono F0 l⟩
def RowsV.congr{h:aD}{A:Option aF}{n w:Nat}{M M':Nat->Nat->Rat}(r:RowsV h A n w M)(e:∀i j,i<n->j<w->M i j=M' i j):RowsV h A n w M':=by obtain⟨f,s,c,r⟩:=r;refine⟨f,s,c,fun i d=>?_⟩;obtain⟨s,c,l,g,r⟩:=r i d;exact⟨s,c,l,g,r.congr fun j k=>e i j d k⟩
def RowsV.at{h:aD}{A:Option aF}{n w:Nat}{M:Nat->Nat->Rat}(r:RowsV h A n w M){i:Nat}(hi:i<n):∃(a:aF) (s:HV),A=some a/\s.n=w/\w<=s.c/\h.cell? (aC a (i*1))=some (.slice s.A s.n s.c)/\RowV NQr h s.A w (M i):=by obtain⟨d,s,e,r⟩:=r;obtain⟨u,m,l,f,r⟩:=r i hi;obtain⟨a,g,k⟩:=SlF.at dc s (i:=i) o;have j:d[i]=u:=by{grind};have:=k 0 _ (by rw[j];rfl);exact⟨a,u,g,l,f,this,r⟩
structure Mt (h g o:aD) (bo:Nat) (rb:Nat->Nat) (n w:Nat) (M:Nat->Nat->Rat):Prop where
 sep:Sep h g o
 hd:∃ hd:List HV,RowB o bo hd/\hd.length=n/\∀ i,i<n->∃ c,hd[i]? = some ⟨some ⟨rb i,0,none⟩,w,c⟩/\w<=c
 nb:∀ i,i<n->rb i≠bo
 inj:∀ i j,i<n->j<n->rb i=rb j->i=j
 row:∀ i,i<n->∃ xs:List QV,RowB o (rb i) xs/\xs.length=w/\Row NQr g xs w (M i)
section
variable {h g o:aD} {bo n w:Nat} {rb:Nat->Nat} {M:Nat->Nat->Rat}
def Mt.next(t:Mt h g o bo rb n w M){h' g':aD}(s:Sep h' g' o)(l:g.le g'):Mt h' g' o bo rb n w M:=by refine⟨s,t.hd,t.nb,t.inj,fun i d=>?_⟩;obtain⟨c,r,e,q⟩:=t.row i d;exact⟨c,r,e,q.mono F0 l⟩
def Mt.congr(t:Mt h g o bo rb n w M){M':Nat->Nat->Rat}(e:∀i j,i<n->j<w->M i j=M' i j):Mt h g o bo rb n w M':=by refine⟨t.sep,t.hd,t.nb,t.inj,fun i c=>?_⟩;obtain⟨f,r,k,q⟩:=t.row i c;exact⟨f,r,k,q.congr fun j d=>e i j c d⟩
def Mt.keep(t:Mt h g o bo rb n w M){h' g' o':aD}(s:Sep h' g' o')(l:g.le g')(hk:∀k x,o k=some x->(k=bo\/∃i,i<n/\k=rb i)->o' k=some x):Mt h' g' o' bo rb n w M:=by refine⟨s,?_,t.nb,t.inj,fun i j=>?_⟩;{obtain⟨m,⟨e,ex,f⟩,d,c⟩:=t.hd;exact⟨m,⟨e,ex,hk _ _ f (.inl rfl)⟩,d,c⟩};·obtain⟨p,⟨e,ex,f⟩,d,c⟩:=t.row i j;exact⟨p,⟨e,ex,hk _ _ f (.inr ⟨i,j,rfl⟩)⟩,d,c.mono F0 l⟩
def Mt.own(t:Mt h g o bo rb n w M):(∃x,o bo=some x)/\∀i,i<n->∃x,o (rb i)=some x:=by obtain⟨f,⟨e,ex,c⟩,_⟩:=t.hd;refine⟨⟨_,c⟩,fun i d=>?_⟩;obtain⟨j,⟨e,ex,c⟩,_⟩:=t.row i d;grind
def Mt.rowsV(t:Mt h g o bo rb n w M):RowsV h (some ⟨bo,0,none⟩) n w M:=by obtain⟨f,r,e,q⟩:=t.hd;refine⟨f,r.slF t.sep.ole,e,fun i d=>?_⟩;obtain⟨c,k,s⟩:=q i d;obtain⟨l,p,m,j⟩:=t.row i d;exact⟨_,k,rfl,s,l,p.slF t.sep.ole,m,j.mono F0 t.sep.le⟩
def Mt.head(t:Mt h g o bo rb n w M){i:Nat}(hi:i<n):∃c,w<=c/\o.cell? (aC ⟨bo,0,none⟩ (i*1))=some (.slice (some ⟨rb i,0,none⟩) w c):=by obtain⟨d,r,e,q⟩:=t.hd;obtain⟨c,l,f⟩:=q i hi;refine⟨c,f,?_⟩;have k:d[i]=⟨some ⟨rb i,0,none⟩,w,c⟩:=by{grind};rw[D6,aI];exact r.cell (i:=i) oo (j:=0) (by rw[k];rfl)
def Mt.elem(t:Mt h g o bo rb n w M){i j:Nat}(hi:i<n)(hj:j<w):∃x:QV,NQ g x (M i j)/\o.cell? (aC (aC ⟨rb i,0,none⟩ (j*4)) 0)=some (.bool x.s)/\o.cell? (aC (aC ⟨rb i,0,none⟩ (j*4)) 1)=some (.slice x.A x.n x.c)/\o.cell? (aC (aC ⟨rb i,0,none⟩ (j*4)) 2)=some (.bool x.s2)/\o.cell? (aC (aC ⟨rb i,0,none⟩ (j*4)) 3)=some (.slice x.A2 x.n2 x.c2):=by obtain⟨f,r,e,q⟩:=t.row i hi;obtain⟨x,m,d⟩:=q j hj;have cell:∀k v,(enc x)[k]? = some v->o.cell? (aC (aC ⟨rb i,0,none⟩ (j*4)) k)=some v:=by{intro k v l;rw[D6,D6,aI];exact r.cell (i:=j) oo (j:=k) gz0};exact⟨x,d,cell 0 _ rfl,cell 1 _ rfl,cell 2 _ rfl,cell 3 _ rfl⟩
def A9o(M:Nat->Nat->Rat)(i j:Nat)(q:Rat):Nat->Nat->Rat:=fun a b=>if a=i/\b=j then q else M a b
def Mt.store(t:Mt h g o bo rb n w M){i j:Nat}(hi:i<n)(hj:j<w){x:QV}{q:Rat}(hx:NQ g x q){K:Unit->aD->Prop} (k:∀h' o',Mt h' g o' bo rb n w (A9o M i j q)->(∀k,k≠rb i->o' k=o k)->K () h'):wpH prog (aH 37 (.pointer (some (aC ⟨rb i,0,none⟩ (j*4)))) x.v) K h:=by obtain⟨H,r,e,F⟩:=t.row i hi;rw[D6,aI];refine Sep.store (E:=inferInstanceAs (Enc QV)) Ez (v:=x.v) (y:=x) rfl t.sep r (i:=j) oo rfl ?_;intro h' o' L c m u;refine k h' o' ⟨m,?_,t.nb,t.inj,fun a d=>?_⟩ (fun k p=>by rw[c,B9 _ _ p]);{obtain⟨l,D,C,A⟩:=t.hd;exact⟨l,by rw[c];exact D.other (t.nb i hi).symm _,C,A⟩};·by_cases f:a=i;{subst f;refine⟨_,u,gz0,?_⟩;refine(Row.upd F (k:=j) oo hx).congr fun b _=>?_;unfold A9o;grind};·obtain⟨z,G,B,s⟩:=t.row a d;refine⟨z,by rw[c];exact G.other (fun e=>f (t.inj a i d hi e)) _,B,s.congr fun b _=>?_⟩;unfold A9o;grind
def Mt.swap{P:aV}(t:Mt h g o bo rb n w M){i k:Nat}(hi:i<n)(hk:k<n){t':aK}(one:P.cellsOf t'=1/\(P.info? t').isSome=true){ci ck:Nat}(hci:o.cell? (aC ⟨bo,0,none⟩ (i*1))=some (.slice (some ⟨rb i,0,none⟩) w ci))(hck:o.cell? (aC ⟨bo,0,none⟩ (k*1))=some (.slice (some ⟨rb k,0,none⟩) w ck))(hcw:w<=ci)(hcw2:w<=ck){X:Unit->aD->Prop} (xx:∀h1,(∀{K:Unit->aD->Prop},(∀h' o',Mt h' g o' bo (fun a=>rb (xch i k a)) n w (fun a=>M (xch i k a))->(∀k,k≠bo->o' k=o k)->K () h')->wpH P (aH t' (.pointer (some (aC ⟨bo,0,none⟩ (i*1)))) (.slice (some ⟨rb k,0,none⟩) w ck)) K h1)->X () h1): wpH P (aH t' (.pointer (some (aC ⟨bo,0,none⟩ (k*1)))) (.slice (some ⟨rb i,0,none⟩) w ci)) X h:=by obtain⟨N,r,e,q⟩:=t.hd;rw[D6,aI];refine Sep.store (E:=inferInstanceAs (Enc HV)) one (v:=.slice (some ⟨rb i,0,none⟩) w ci) (y:=(⟨some ⟨rb i,0,none⟩,w,ci⟩:HV)) rfl t.sep r (i:=k) oo rfl ?_;intro h1 Q T u G B;refine xx h1 (fun {K} kk=>?_);rw[D6,aI];refine Sep.store (E:=inferInstanceAs (Enc HV)) one (v:=.slice (some ⟨rb k,0,none⟩) w ck) (y:=(⟨some ⟨rb k,0,none⟩,w,ck⟩:HV)) rfl G B (i:=i) gz0 rfl ?_;intro p A R z C L;have ko:∀b,b≠bo->A b=o b:=fun b f=>by{rw[z,B9 _ _ f,u,B9 _ _ f]};have m:∀a,a<n->xch i k a<n:=fun a d=>He hi hk d;have j:∀a b,xch i k a=xch i k b->a=b:=fun a b h=>by{rw[<- A40 (k:=i) (l:=k) (i:=a),h,A40]};refine kk p A ⟨C,⟨_,L,gz0,fun a d=>?_⟩,fun a d=>t.nb _ (m a d),fun a b d f h=>j a b (t.inj _ _ (m a d) (m b f) h),fun a d=>?_⟩ ko;{by_cases S:a=i;{exact⟨ck,by unfold xch;grind,hcw2⟩};·by_cases O:a=k;{exact⟨ci,by unfold xch;grind,hcw⟩};·obtain⟨c,h1,p⟩:=q a d;exact⟨c,by unfold xch;grind,p⟩};·obtain⟨F,H,ex,D⟩:=t.row _ (m a d);obtain⟨e,s,f⟩:=H;exact⟨F,⟨e,s,by rw[ko _ (t.nb _ (m a d))];exact f⟩,ex,D⟩
end
def RWr(w:Nat):aD->HV->(Nat->Rat)->Prop:=fun h s f=>s.n=w/\w<=s.c/\RowV NQr h s.A w f
def Nz(w:Nat):Mon (RWr w):=fun _ _ _ _ l i=>⟨i.1,i.2.1,i.2.2.mono F0 l⟩
def RowsV.of{h:aD}{A:Option aF}{n w:Nat}{M:Nat->Nat->Rat}(r:RowV (RWr w) h A n M):RowsV h A n w M:=r
def A5z{α:Type}[E:Enc α]{P:aV}{t e ty:aK}{z:aN}{bytes:Nat}(st:bV P t e z E.default.size bytes){h g o:aD}(s:Sep h g o){A:Option aF}{B:Option aF}{d m:Nat}{ys:List α}(hm:m=ys.length)(hne:ys≠[])(sy:SlF h B ys)
 (hb:(2*ys.length+192)*bytes<=281474976710656) (hn:ys.length<=9223372036854775807) {K:VP}
 (x:∀b c' h' g' o' y,o'=o.put b y->h b=none->g.le g'->Sep h' g' o'->ys.length<=c'->RowB o' b ys->K (.slice (some ⟨b,0,none⟩) m c') h'):wpH P (aM #[t,t] ty #[.slice A 0 0,.slice B m d]) K h:=by
 have p:PrivF h h e A 0 ([]:List α):=PrivF.nil h e A;refine Bi st p hm sy gz0 gz0 ?_;intro A' c' h' g' n l;obtain⟨b,y,F,c,D,_,w⟩:=B33 l hne;obtain⟨q,j,r⟩:=s.after n;have i:=l.2.1
 have k:h b=none:=by
  cases hx:h b with
  |none=>rfl
  |some u=>rw[n b u hx]at c;cases c
 obtain⟨C,ex,f⟩:=w;rw[C3]at f;have:=x b c' _ q (o.put b y) y rfl k j (r.new c y) i ⟨C,ex,by rw[C3];exact f⟩;grind
section
variable {h:aD} {K:VP} {A:Option aF} {n cap m w:Nat} {r c:Int} {ls:Nat->List UInt8} {M:Nat->Nat->Rat}
def Qg{rcap:Nat}(rs:RowsV h A n w M)(hn:n<=1000000)(hw1:1<=w)(hw:w<=1000000)(hn1:1<=n)
 (hK:∀h' g' o' bo rb c',h.le g'->Mt h' g' o' bo rb n w M->K (.slice (some ⟨bo,0,none⟩) n c') h'):aJ prog 126 #[.slice A n rcap] h K:=by
 refine(fnk func126 [(3,[3,4],[],[.slice none 0 0,I 0])]) ?_
 refine⟨fun L hp=>∃(k:Nat) (g o:aD) (C:List HV) (rb:Nat->Nat) (A':Option aF) (c':Nat),k<=n/\L=[.slice A' k c',I (k:Int)]/\h.le g/\Sep hp g o/\OwnSl o 27 A' c' C/\C.length=k/\(∀i,i<k->∃c,C[i]? = some ⟨some ⟨rb i,0,none⟩,w,c⟩/\w<=c)/\(∀i,i<k->A'≠some ⟨rb i,0,none⟩)/\(∀i j,i<k->j<k->rb i=rb j->i=j)/\∀i,i<k->∃m:List QV,RowB o (rb i) m/\m.length=w/\Row NQr g m w (M i),fun L _=>n-(iAt L 1).toNat,
  ⟨0,h,Y9,[],fun _=>0,none,0,oo,rfl,B7 _,Sep.refl h,OwnSl.nil,rfl,fun i f=>oo,fun i f=>oo,fun i j f=>oo,fun i f=>oo⟩,?_⟩;rintro oA on oc z hp ⟨k,g,o,C,rb,A',c',hk,eL,N,s,ow,u,E,r,D,l⟩;obtain⟨⟨rfl,rfl,rfl⟩,rfl⟩:=eL;refine C1 (fun aj=>?_) (fun ai=>?_)
 ·have R:on<n:=oo;refine Da V4 ?_;intro be B;have O:=s.vis B (.cells #[] 37)
  have H:g.le (g.put be (.cells #[] 37)):=Heap.le_put _ (by
   cases Q:g be with
   |none=>rfl
   |some y=>rw[s.le _ _ Q]at B;cases B)
  have G:=B0 N H;obtain⟨a,sv,ea,e1,e2,hc,m,sx,S,qx⟩:=rs.at R;refine⟨_,_,_,rfl,a,ea,oo,oo,_,_,_,C0 (B0 G O.le) hc,?_⟩;refine A5z V4 O (ys:=m) oo gz0 (sx.mono (B0 G O.le)) oo oo ?_;intro t c2 h2 g2 o2 y eo an l2 s2 al V;refine⟨_,_,_,rfl,?_⟩
  have p:∀q x,o q=some x->q≠t:=by
   rintro q x e rfl;have:=O.ole q x e;grind
  have aa:OwnSl o2 27 oA oc C:=ow.keep fun q x _ e=>by rw[eo,B9 _ _ (p q x e)];exact e
  have ag:oA≠some ⟨t,0,none⟩:=by
   intro hA;rcases ow.2 with⟨_,h0⟩|⟨b',ao,am,ak,_⟩;·grind
   grind
  refine J0 (ty:=26) B65 s2 aa u.symm (y:=(⟨some ⟨t,0,none⟩,sv.n,c2⟩:HV)) rfl dc oo oo ?_;intro A3 c3 h3 g3 o3 l3 s3 ac T
  have kq:∀i,i<on->∃x,o (rb i)=some x:=fun i f=>by
   obtain⟨m,⟨e,ex,hb⟩,_⟩:=l i f;grind
  obtain⟨e5,W,ad⟩:=id V;have k2:=T t _ ad ag;rw[u,wiS on oo];have d:=B0 H (B0 l2 l3);refine⟨⟨on+1,g3,o3,_,fun i=>if i=on then t else rb i,A3,c3,oo,rfl,B0 N d,s3,ac,gz0,fun i f=>?_,fun i f=>?_,fun i j f hj h=>?_,fun i f=>?_⟩,?_⟩;·grind
  ·show A3≠some ⟨if i=on then t else rb i,0,none⟩;by_cases e:i=on;·grind
   ·rw[iN e];obtain⟨x,Q⟩:=kq i oo;exact(T (rb i) x (by rw[eo,B9 _ _ (p _ _ Q)];exact Q) (r i oo)).2
  ·grind
  ·show ∃m:List QV,RowB o3 (if i=on then t else rb i) m/\_;by_cases e:i=on
   ·subst e;rw[iP rfl];exact⟨m,⟨e5,W,k2.1⟩,S,qx.mono F0 (B0 N d)⟩
   ·rw[iN e];obtain⟨ys,⟨ey,ah,F⟩,X,qy⟩:=l i oo;refine⟨ys,⟨ey,ah,?_⟩,X,qy.mono F0 d⟩;exact(T (rb i) _ (by rw[eo,B9 _ _ (p _ _ F)];exact F) (r i oo)).1
  ·show n-((on+1:Nat):Int).toNat<n-((on:Nat):Int).toNat;omega
 ·have ae:on=n:=oo;subst ae;obtain⟨bo,rfl,af⟩:=ow.rowB gz0;exact hK hp g o bo rb oc N ⟨s,⟨C,af,u,E⟩,fun i f e=>r i f (by rw[e]),D,l⟩
end
section
variable {α:Type} [E:Enc α]
def OwnSl.app{P:aV}{t e ty:aK}{z:aN}{bytes:Nat}(st:bV P t e z E.default.size bytes){h g o:aD}{A:Option aF}{c:Nat}{xs:List α}(s:Sep h g o)(w:OwnSl o e A c xs){B:Option aF}{d m n:Nat}{ys:List α}(hxn:n=xs.length)(hm:m=ys.length)(hne:ys≠[])(sy:SlF h B ys)(hb:(2*(xs.length+ys.length)+192)*bytes<=281474976710656)(hn:xs.length+ys.length<=9223372036854775807){K:VP}
 (x:∀A' c' h' g' o',g.le g'->Sep h' g' o'->OwnSl o' e A' c' (xs++ys)->(∀k u,o k=some u->A≠some ⟨k,0,none⟩->o' k=some u/\A'≠some ⟨k,0,none⟩)->K (.slice A' (xs.length+m) c') h'):
 wpH P (aM #[t,t] ty #[.slice A n c,.slice B m d]) K h:=by
 subst hxn;obtain⟨gb,p,r⟩:=w.priv s;refine Bi st p hm sy hb hn ?_;intro A' c' h' g' V N;rw[aR,<- hm]
 have q:∀k u,h k=some u->A≠some ⟨k,0,none⟩->g' k=some u:=by
  intro k u f hne;exact V k u (r k u f hne)
 have M:∀k u,g k=some u->A≠some ⟨k,0,none⟩:=by
  intro k u f D;rcases w.2 with⟨_,h0⟩|⟨l,j,i,F,_⟩;·grind
  ·rw[D]at i;simp only[aL,aT,and_true]at i;subst i;rw[s.dis k _ F]at f;cases f
 rcases N.2.2 with⟨S,_⟩|⟨l,j,i,F,G,ha,T⟩
 ·exfalso;have:=N.2.1;simp_all
 ·subst i;let o':aD:=fun k=>if k=l then some (.cells (bD j) e)else if A=some ⟨k,0,none⟩then none else o k;have Q:o' l=some (.cells (bD j) e):=gz0;have ok:∀k,k≠l->A≠some ⟨k,0,none⟩->o' k=o k:=fun k R L=>by grind
  let g2:aD:=fun k=>match o' k with|some _=>none|none=>h' k
  have X:∀k u,o' k=some u->g2 k=none:=fun k u f=>by grind
  have gn:∀k,o' k=none->g2 k=h' k:=fun k f=>by grind
  have H:∀k u,k≠l->g' k=some u->h' k=some u:=fun k u R f=>by rw[G,B9 _ _ R];exact f
  have O:∀k u,o k=some u->A≠some ⟨k,0,none⟩->k≠l:=by
   rintro k u f L rfl;have:=q k u (s.own k u f) L;grind
  refine x _ c' h' g2 o' (fun k u f=>?_) ⟨fun k u f=>?_,fun k f=>(gn k f).symm,X⟩ ⟨N.2.1,.inr ⟨l,j,rfl,Q,ha,T⟩⟩ (fun k u f L=>?_)
  ·have W:o k=none:=by
    cases ho:o k with
    |none=>rfl
    |some y=>rw[s.dis k y ho]at f;cases f
   have D:=M k u f;have e3:=q k u (s.le k u f) D;grind
  ·by_cases C:k=l
   ·subst C;rw[Q]at f;cases f;rw[G,C3]
   ·by_cases D:A=some ⟨k,0,none⟩;·grind
    ·rw[ok k C D]at f;exact H k u C (q k u (s.own k u f) D)
  grind
end
def R9(M:Nat->Nat->Rat)(w:Nat):Nat->List UInt8:=fun k=>F3 (M (k/w) (k%w))
section
variable {h:aD} {K:VP} {A:Option aF} {n cap m w:Nat} {M:Nat->Nat->Rat}
end
abbrev ecE(M:Nat->Nat->Rat)(n c:Nat):ES:=Pd n ⟨M,[],1⟩ c
def B0h{n:Nat}{s:ES}{c:Nat}(h:n<=(Pd n s c).cs.length):∀d,Pd n s (c+d)=Pd n s c:=by
 intro d
 induction d with
 |zero=>rfl
 |succ d ih=>
  show Al n (c+d) (Pd n s (c+d))=_;unfold Al;grind
def Q6(M:Nat->Nat->Rat)(n:Nat):∀c,(ecE M n c).cs.length<=c/\(ecE M n c).cs.length<=n:=by
 intro c
 induction c with
 |zero=>exact⟨aE _,aP _⟩
 |succ c ih=>
  show(Al n c (ecE M n c)).cs.length<=c+1/\(Al n c (ecE M n c)).cs.length<=n;unfold Al;grind
def A96(M:Nat->Nat->Rat)(n c:Nat):Rat:=if(ecE M n c).cs.length<c then 0 else(ecE M n c).det
abbrev qc(w:QV):List aN:=[.bool w.s,.slice w.A w.n w.c,.bool w.s2,.slice w.A2 w.n2 w.c2]
def A1z{w:QV}{a b:Bool}{A B:Option aF}{n c n' c':Nat}{l l':List aN}(h:(.bool a:aN) :: .slice A n c :: .bool b :: .slice B n' c'::l= .bool w.s :: .slice w.A w.n w.c :: .bool w.s2 :: .slice w.A2 w.n2 w.c2::l'):(⟨a,A,n,c,b,B,n',c'⟩:QV)=w/\l=l':=by simp_all
def Rn(bo:Nat)(rb:Nat->Nat)(n:Nat)(A:Option aF):Prop:=A≠some ⟨bo,0,none⟩/\∀i,i<n->A≠some ⟨rb i,0,none⟩
section
variable {g o h11 h14 h15 hp2:aD} {bo n w r c i B:Nat} {rb:Nat->Nat} {R:Nat->Nat->Rat} {x:QV} {q:Rat} {Invv Invv3:LP} {muv muv3:LN}
def C52(t:Mt h15 g o bo rb n w R)(hi:i<n)(hr:r<n)(hir:i≠r)(hcw:c<=w)(hn:n<=10000)(hw:w<=10000)(ix:NQ g x q)(s1:∀b,b<w->Sz B (R i b))(s2:∀b,b<w->Sz (B+B) (R r b))(s3:Sz B q)(hB:B*7<=100000000) (fin:∀h' g' o',g.le g'->Mt h' g' o' bo rb n w (fun a b=>if a=i/\c<=b then R i b-q*R r b else R a b)->(∀b,(∀i,i<n->b≠rb i)->o' b=o b)->Invv3 [I (C4 ((i:Int)+1))] h'/\muv3 [I (C4 ((i:Int)+1))] h'<muv3 [I (i:Int)] h14): Vx prog (some ⟨bo,0,none⟩) n r (c:Int) Invv3 muv3 (i:Int) x.s x.A x.n x.c x.s2 x.A2 x.n2 x.c2 h15 h14:=by refine⟨fun L hq=>∃(k:Nat) (g' o':aD),c<=k/\k<=w/\L=[I (k:Int)]/\g.le g'/\Mt hq g' o' bo rb n w (fun a b=>if a=i/\c<=b/\b<k then R i b-q*R r b else R a b)/\(∀b,(∀i,i<n->b≠rb i)->o' b=o b),fun L _=>w-(iAt L 0).toNat,⟨c,g,o,aE _,hcw,rfl,B7 _,t.congr (fun a b _ _=>gz0),fun _ _=>rfl⟩,?_⟩;rintro z D ⟨k,S,W,ag,ae,ac,G,e,C⟩;obtain rfl:z=(k:Int):=gz0;obtain⟨c6,af,F⟩:=e.head hi;have j:=e.sep.cell F;refine⟨_,rfl,oo,oo,_,_,_,j,C1 (fun T=>?_) (fun Q=>?_)⟩;{have d:k<w:=oo;obtain⟨c7,ad,H⟩:=e.head hr;obtain⟨y,N,y0,y1,y2,y3⟩:=e.elem hi d;obtain⟨v,O,v0,v1,v2,X⟩:=e.elem hr d;rw[iN oo]at N;rw[iN (fun x=>hir x.1.symm)]at O;refine⟨_,rfl,oo,oo,_,_,_,j,_,rfl,oo,oo,_,_,_,j,_,rfl,oo,oo,_,_,_,_,_,_,_,_,e.sep.cell y0,e.sep.cell y1,e.sep.cell y2,e.sep.cell y3,_,rfl,oo,oo,_,_,_,e.sep.cell H,_,rfl,oo,oo,_,_,_,_,_,_,_,_,e.sep.cell v0,e.sep.cell v1,e.sep.cell v2,e.sep.cell X,?_⟩;refine e.sep.call (K9 (ix.mono G) O (s3.mono (show B<=B+B from oo)) (s2 k d) oo ?_);intro w7 g7 m i7 aa f;have t7:=e.next f m;refine⟨_,_,_,_,_,_,_,_,rfl,e.sep.le_le f m,?_⟩;refine f.call (A1r (N.mono m) i7 ((s1 k d).mono (show B<=B+(B+B)from oo)) (s3.mul (s2 k d)) oo ?_);intro w8 g8 u i8 ah l;have t8:=t7.next l u;refine⟨_,_,_,_,_,_,_,_,rfl,f.le_le l u,_,rfl,oo,oo,?_⟩;refine t8.store hi d (x:=w8) i8 ?_;intro V p E M;rw[wiS k oo];refine⟨⟨k+1,g8,p,oo,oo,rfl,B0 G (B0 m u),E.congr (fun a b _ _=>?_),fun b hb=>gz0⟩,by simp only[O8];omega⟩;show(if a=i/\b=k then R i k-q*R r k else if a=i/\c<=b/\b<k then R i b-q*R r b else R a b)=if a=i/\c<=b/\b<k+1 then R i b-q*R r b else R a b;grind};·refine fin D S W G (e.congr (fun a b _ hb=>?_)) C;grind
def C53{pA:Option aF}{pc:Nat}{d0 d2 e0 e2:Bool}{d1A d3A e1A e3A:Option aF}{d1n d1c d3n d3c e1n e1c e3n e3c:Nat}(t:Mt h11 g o bo rb n w (fun a b=>if a=r then R r b/R r c else R a b))(hr:r<n)(hcw:c<w)(hn:n<=10000)(hw:w<=10000)(hB1:1<=B)(hR:∀a b,a<n->b<w->Sz B (R a b))(hB:B*7<=100000000) (fin:∀h' g' o',g.le g'->Mt h' g' o' bo rb n w (elimE R r c)->(∀b,(∀i,i<n->b≠rb i)->o' b=o b)->wpH prog (aO 22 1 #[(0,I (c:Int))]) (fun v hp20=>∃(t167A:Option aF) (t167n:Nat) (t167c:Nat),v= .slice t167A t167n t167c/\wpH prog (aM #[22,22] 22 #[.slice pA r pc,.slice t167A t167n t167c]) (fun v1 hp21=>∃(t168A:Option aF) (t168n:Nat) (t168c:Nat),v1= .slice t168A t168n t168c/\Invv [.slice t168A t168n t168c,I (C4 ((c:Int)+(1:Int))),.bool e0,.slice e1A e1n e1c,.bool e2,.slice e3A e3n e3c] hp21/\muv [.slice t168A t168n t168c,I (C4 ((c:Int)+(1:Int))),.bool e0,.slice e1A e1n e1c,.bool e2,.slice e3A e3n e3c] hp21<muv [.slice pA r pc,I (c:Int),.bool d0,.slice d1A d1n d1c,.bool d2,.slice d3A d3n d3c] hp2) hp20) h'): Lw prog (some ⟨bo,0,none⟩) n Invv muv pA r pc (c:Int) d0 d1A d1n d1c d2 d3A d3n d3c e0 e1A e1n e1c e2 e3A e3n e3c hp2 h11:=by refine⟨fun L j=>∃(i:Nat) (g' o':aD),i<=n/\L=[I (i:Int)]/\g.le g'/\Mt j g' o' bo rb n w (fun a b=>if a=r then R r b/R r c else if a<i then elimE R r c a b else R a b)/\(∀b,(∀i,i<n->b≠rb i)->o' b=o b),fun L _=>n-(iAt L 0).toNat,⟨0,g,o,oo,rfl,B7 _,t.congr (fun a b _ l=>?_),fun _ _=>rfl⟩,?_⟩;{rfl};rintro z k ⟨i,E,A,hi,V,s,d,p⟩;obtain rfl:z=(i:Int):=gz0;have q:C4 ((i:Int)+1)=((i+1:Nat):Int):=by{rw[C2]<;>omega};refine C1 (fun D=>?_) (fun C=>?_);{have f:i<n:=oo;obtain⟨c5,Q,y⟩:=d.head f;obtain⟨x,u,G,x1,W,N⟩:=d.elem f hcw;refine⟨_,rfl,oo,oo,_,_,_,d.sep.cell y,_,rfl,oo,oo,_,_,_,_,_,_,_,_,d.sep.cell G,d.sep.cell x1,d.sep.cell W,d.sep.cell N,?_⟩;have same:∀(j:i=r\/R i c=0),(∃(i':Nat) (g' o':aD),i'<=n/\[I (C4 ((i:Int)+1))]=[I (i':Int)]/\g.le g'/\Mt k g' o' bo rb n w (fun a b=>if a=r then R r b/R r c else if a<i' then elimE R r c a b else R a b)/\(∀b,(∀i,i<n->b≠rb i)->o' b=o b))/\n-(iAt [I (C4 ((i:Int)+1))] 0).toNat<n-(iAt [I (i:Int)] 0).toNat:=by{intro j;rw[q];refine⟨⟨i+1,E,A,oo,rfl,s,d.congr (fun a b _ _=>?_),p⟩,by simp only[O8];omega⟩;by_cases F:a=r;{grind};·by_cases h1:a<i;{grind};·by_cases h2:a<i+1;{rcases j with j|j;{omega};·unfold elimE;grind};grind};refine D5 (fun X=>same (.inl oo)) (fun X=>?_);have m:i≠r:=oo;rw[iN m,iN (bM i)]at u;refine S2 (u.mono d.sep.le) ⟨_,rfl,D5 (fun e=>?_) (fun e=>?_)⟩;{exact same (.inr (by rw[Int.sign_eq_zero_iff_zero]at e;exact Rat.num_eq_zero.1 e))};refine C52 (B:=B) d f hr m oo hn hw u (fun b l=>gz0) (fun b l=>by rw[iP rfl];exact(hR r b hr l).div (hR r c hr hcw) hB1) (hR i c f hcw) hB ?_;intro T H M l6 O S;rw[q];refine⟨⟨i+1,H,M,oo,rfl,B0 s l6,O.congr (fun a b _ l=>?_),fun b l=>gz0⟩,by simp only[O8];omega⟩;by_cases F:a=i;{unfold elimE;grind};grind};·exact fin k E A s (d.congr (fun a b ha _=>by by_cases F:a=r;{unfold elimE;grind};grind)) p
def C54{h10:aD}{xf:QV}{pA:Option aF}{pc:Nat}{d0 d2 e0 e2:Bool}{d1A d3A e1A e3A:Option aF}{d1n d1c d3n d3c e1n e1c e3n e3c:Nat}(t:Mt h10 g o bo rb n w R)(hr:r<n)(hcw:c<w)(hn:n<=10000)(hw:w<=10000)(ixf:NQ g xf (R r c))(hR:∀b,b<w->Sz B (R r b))(hB:B*7<=100000000) (fin:∀h' g' o',g.le g'->Mt h' g' o' bo rb n w (fun a b=>if a=r then R r b/R r c else R a b)->(∀b,(∀i,i<n->b≠rb i)->o' b=o b)->Lw prog (some ⟨bo,0,none⟩) n Invv muv pA r pc (c:Int) d0 d1A d1n d1c d2 d3A d3n d3c e0 e1A e1n e1c e2 e3A e3n e3c hp2 h'): Vy prog (some ⟨bo,0,none⟩) n Invv muv pA r pc (c:Int) d0 d1A d1n d1c d2 d3A d3n d3c xf.s xf.A xf.n xf.c xf.s2 xf.A2 xf.n2 xf.c2 e0 e1A e1n e1c e2 e3A e3n e3c h10 hp2:=by refine⟨fun L T=>∃(j:Nat) (g' o':aD),j<=w/\L=[I (j:Int)]/\g.le g'/\Mt T g' o' bo rb n w (fun a b=>if a=r/\b<j then R r b/R r c else R a b)/\(∀b,(∀i,i<n->b≠rb i)->o' b=o b),fun L _=>w-(iAt L 0).toNat,⟨0,g,o,oo,rfl,B7 _,t.congr (fun a b _ _=>gz0),fun _ _=>rfl⟩,?_⟩;rintro z p ⟨j,g4,o4,hj,X,u,d,y⟩;obtain rfl:z=(j:Int):=gz0;obtain⟨S,F,C⟩:=d.head hr;have f:=d.sep.cell C;refine⟨_,rfl,oo,oo,_,_,_,f,C1 (fun N=>?_) (fun G=>?_)⟩;{have e:j<w:=oo;obtain⟨x,E,H,x1,x2,O⟩:=d.elem hr e;rw[iN oo]at E;refine⟨_,rfl,oo,oo,_,_,_,f,_,rfl,oo,oo,_,_,_,f,_,rfl,oo,oo,_,_,_,_,_,_,_,_,d.sep.cell H,d.sep.cell x1,d.sep.cell x2,d.sep.cell O,?_⟩;refine d.sep.call (A1w E (ixf.mono u) (hR _ e) (hR _ hcw) oo ?_);intro w5 g5 m V W k;refine⟨_,_,_,_,_,_,_,_,rfl,d.sep.le_le k m,_,rfl,oo,oo,?_⟩;have t5:=d.next k m;refine t5.store hr e (x:=w5) V ?_;intro M l q D;rw[wiS j oo];refine⟨⟨j+1,g5,l,oo,rfl,B0 u m,q.congr (fun a b _ _=>?_),fun b Q=>gz0⟩,by simp only[O8];omega⟩;show(if a=r/\b=j then R r j/R r c else if a=r/\b<j then R r b/R r c else R a b)=if a=r/\b<j+1 then R r b/R r c else R a b;grind};·refine fin p g4 o4 u (d.congr (fun a b _ Q=>?_)) y;grind
end
section
variable {g o h5 h9 hp2:aD} {bo n w r c B k:Nat} {rb:Nat->Nat} {R:Nat->Nat->Rat} {q:Rat} {Invv:LP} {muv:LN} {pA:Option aF} {pc:Nat} {wd wd0:QV} {l:List Nat}
def C55(hl:l.length=r)(t:Mt h9 g o bo rb n w R)(ow:OwnSl o 3 pA pc (zs l))(ap:Rn bo rb n pA)(iq:NQ g wd q)(hr:r<n)(hcw:c<w)(hn:n<=10000)(hw:w<=10000)(hB1:1<=B)(hq:Sz B q)(hR:∀a b,a<n->b<w->Sz B (R a b))(hB:B*7<=100000000) (fin:∀h' g' o' A' c' wd',g.le g'->Mt h' g' o' bo rb n w (elimE R r c)->OwnSl o' 3 A' c' (zs (l++[c]))->Rn bo rb n A'->NQ g' wd' (q*R r c)->Invv (.slice A' (r+1) c'::I (C4 ((c:Int)+1))::qc wd') h'/\muv (.slice A' (r+1) c'::I (C4 ((c:Int)+1))::qc wd') h'<muv (.slice pA r pc::I (c:Int)::qc wd0) hp2): Vz prog (some ⟨bo,0,none⟩) n Invv muv pA r pc (c:Int) wd0.s wd0.A wd0.n wd0.c wd0.s2 wd0.A2 wd0.n2 wd0.c2 wd.s wd.A wd.n wd.c wd.s2 wd.A2 wd.n2 wd.c2 hp2 h9:=by obtain⟨ch,ag,kh⟩:=t.head hr;obtain⟨xf,j,C,u,p,F⟩:=t.elem hr hcw;refine⟨_,rfl,oo,oo,_,_,_,t.sep.cell kh,_,rfl,oo,oo,_,_,_,_,_,_,_,_,t.sep.cell C,t.sep.cell u,t.sep.cell p,t.sep.cell F,?_⟩;refine t.sep.call (K9 iq j hq (hR _ _ hr hcw) oo ?_);intro H g3 E i4 ac L;refine⟨_,_,_,_,_,_,_,_,rfl,?_⟩;refine C54 (B:=B) (t.next L E) hr hcw hn hw (j.mono E) (fun b Q=>hR _ b hr Q) hB ?_;intro ae g4 o4 V t4 af;refine C53 (B:=B) t4 hr hcw hn hw hB1 hR hB ?_;intro aa g5 T S m W;have M:∀b,(∀i,i<n->b≠rb i)->T b=o b:=fun b Q=>by{grind};have G:OwnSl T 3 pA pc (zs l):=ow.keep fun b x hA e=>by{rw[M b (fun i hi e=>ap.2 i hi gz0)];exact e};have f:(zs l).length=r:=by{simp[hl]};refine J0 (ty:=22) Gf m.sep G f.symm (y:=((c:Nat):Int)) rfl dc oo oo ?_;intro A6 c6 D X o6 N s6 ad d;obtain⟨⟨y0,O⟩,z⟩:=m.own;have t6:=m.keep s6 N (fun k x e hk=>by rcases hk with rfl|⟨q,hq,rfl⟩;{exact(d _ _ e ap.1).1};·exact(d _ _ e (ap.2 q hq)).1);rw[f];refine fin D X o6 A6 c6 H (B0 E (B0 V (B0 S N))) t6 gz0 ⟨(d _ _ O ap.1).2,fun q hq=>?_⟩ (i4.mono (B0 V (B0 S N)));obtain⟨x,hx⟩:=z q hq;exact(d _ _ hx (ap.2 q hq)).2
def C56(hl:l.length=r)(t:Mt h5 g o bo rb n w R)(ow:OwnSl o 3 pA pc (zs l))(ap:Rn bo rb n pA)(iq:NQ g wd0 q)(hr:r<n)(hk:k<=n)(hcw:c<w)(hn:n<=10000)(hw:w<=10000)(hB1:1<=B)(hq:Sz B q)(hR:∀a b,a<n->b<w->Sz B (R a b))(hB:B*7<=100000000) (fin0:k=n->Invv (.slice pA r pc::I (C4 ((c:Int)+1))::qc ⟨false,none,0,0,false,none,0,0⟩) h5/\muv (.slice pA r pc::I (C4 ((c:Int)+1))::qc ⟨false,none,0,0,false,none,0,0⟩) h5<muv (.slice pA r pc::I (c:Int)::qc wd0) hp2) (fin:k<n->∀h' g' o' rb' A' c' wd',g.le g'->Mt h' g' o' bo rb' n w (elimE (fun i=>R (xch r k i)) r c)->OwnSl o' 3 A' c' (zs (l++[c]))->Rn bo rb' n A'->NQ g' wd' ((if k=r then q else -q)*R k c)->Invv (.slice A' (r+1) c'::I (C4 ((c:Int)+1))::qc wd') h'/\muv (.slice A' (r+1) c'::I (C4 ((c:Int)+1))::qc wd') h'<muv (.slice pA r pc::I (c:Int)::qc wd0) hp2): Wa prog (some ⟨bo,0,none⟩) n Invv muv pA r pc (c:Int) wd0.s wd0.A wd0.n wd0.c wd0.s2 wd0.A2 wd0.n2 wd0.c2 (k:Int) hp2 h5:=by refine D5 (fun e=>fin0 oo) (fun ai=>?_);have d:k<n:=oo;have m:∀i,i<n->xch r k i<n:=fun i X=>He hr d X;have xk:xch r k r=k:=Jh _ _;refine⟨fun L hq=>∃(y Q:aD) (f:Nat->Nat) (wd:QV),L=qc wd/\g.le y/\Mt hq y Q bo f n w (fun i=>R (xch r k i))/\OwnSl Q 3 pA pc (zs l)/\Rn bo f n pA/\NQ y wd (if k=r then q else -q),?_,?_⟩;{refine E6 (fun ag=>?_) (fun ah=>?_);{obtain⟨c1,af,k1⟩:=t.head hr;obtain⟨c2,V,k2⟩:=t.head d;refine⟨_,rfl,oo,oo,_,_,_,t.sep.cell k1,_,rfl,oo,oo,_,_,_,t.sep.cell k2,_,rfl,oo,oo,?_⟩;refine t.swap hr d A6f k1 k2 af V (fun h6 H=>⟨_,rfl,oo,oo,H (fun h7 o7 t7 N=>?_)⟩);refine t7.sep.call (Nk iq (fun u i3 h8 s8=>⟨_,_,_,_,_,_,_,_,rfl,?_⟩));refine⟨g,o7,_,u,rfl,B7 _,t7.next s8 (B7 _),ow.keep fun b x hA e=>?_,⟨ap.1,fun i X=>ap.2 _ (m i X)⟩,gz0⟩;rw[N b (fun e=>ap.1 gz0)];exact e};·refine⟨g,o,rb,wd0,rfl,B7 _,t.congr (fun i j _ _=>?_),ow,ap,gz0⟩;unfold xch;grind};rintro e0 W S T e2 aa G ae h9 ⟨y,Q,f,u,C,E,t2,M,O,z⟩;obtain⟨rfl,_⟩:=A1z C;have ac:Sz B (if k=r then q else -q):=by{split;{exact hq};·exact hq.neg};refine C55 (wd:=⟨e0,W,S,T,e2,aa,G,ae⟩) hl t2 M O z hr hcw hn hw hB1 ac (fun a b ha hb=>hR _ b (m a ha) hb) hB ?_;intro h' g' o' A' c' wd' F t' ad D p;rw[xk]at p;exact fin d h' g' o' f A' c' wd' (B0 E F) t' ad D p
end
section
variable {h:aD} {K:VP} {A:Option aF} {n cap m w:Nat} {M:Nat->Nat->Rat}
def Kj{cols nq:Nat}(rs:RowsV h A n w M)(hn1:1<=n)(hn:n<=10000)(hw1:1<=w)(hw:w<=10000)(hc:cols<=w)(hm1:1<=m)(hs:∀ i j,i<n->j<w->Sz m (M i j))(hnq:∀ c,c<cols->(ecE M n c).cs.length<nq)(hm:7^nq*m<=100000000)
 (hK:∀ h' g' o' bo rb c' A' cap' wd,h.le g'->Mt h' g' o' bo rb n w (ecE M n cols).R->OwnSl o' 3 A' cap' (zs (ecE M n cols).cs)->Rn bo rb n A'->NQ g' wd (A96 M n cols)->
  K (.tuple #[.slice (some ⟨bo,0,none⟩) n c',.slice A' (ecE M n cols).cs.length cap',wd.v]) h'):aJ prog 75 #[.slice A n cap,I (cols:Int)] h K:=by
 refine A64 _ _ _ _ ?_
 refine Qg rs oo hw1 oo hn1 ?_
 intro h1 g1 o1 bo af c0 ai t1
 refine ⟨_,_,_,rfl,t1.sep.call (Ao ⟨oo,oo⟩ ?_)⟩
 intro wd g2 l2 id h2 s2
 refine ⟨_,_,_,_,_,_,_,_,rfl,fun L y=>∃ (c:Nat) (g o:aD) (rb:Nat->Nat) (A':Option aF) (cap':Nat) (wd:QV),c<=cols/\L= .slice A' (ecE M n c).cs.length cap'::I (c:Int)::qc wd/\h.le g/\Mt y g o bo rb n w (ecE M n c).R/\OwnSl o 3 A' cap' (zs (ecE M n c).cs)/\Rn bo rb n A'/\NQ g wd (ecE M n c).det,fun L _=>cols-(iAt L 1).toNat,
  ⟨0,g2,o1,af,none,0,wd,oo,rfl,B0 ai l2,t1.next s2 l2,(OwnSl.nil:OwnSl o1 3 none 0 ([]:List Int)),⟨by simp,fun i hi=>by simp⟩,id⟩,?_⟩
 rintro pA pn pc z d0 E p D d2 l u q y ⟨c,g,o,rb,A',cap',d,ao,W,lg,t,ow,ap,iq⟩
 simp only [List.cons.injEq,Value.int.injEq,Value.slice.injEq,true_and] at W
 obtain ⟨⟨rfl,rfl,rfl⟩,rfl,W⟩:=W
 obtain ⟨rfl,_⟩:=A1z (by grind:(.bool d0:aN) :: .slice E p D :: .bool d2 :: .slice l u q::[]= .bool d.s :: .slice d.A d.n d.c :: .bool d.s2 :: .slice d.A2 d.n2 d.c2::[])
 have Q:∀ (he:ecE M n cols=ecE M n c),Br (decide ((((ecE M n c).cs.length:Nat):Int)<(cols:Int))) (K (.tuple #[.slice (some ⟨bo,0,none⟩) n c0,.slice pA (ecE M n c).cs.length pc,.agg #[.bool false,.slice none 0 0,.bool false,.slice none 0 0]]) y)
  (K (.tuple #[.slice (some ⟨bo,0,none⟩) n c0,.slice pA (ecE M n c).cs.length pc,.agg #[.bool d0,.slice E p D,.bool d2,.slice l u q]]) y):=by
  intro he
  rw [<- he] at t ow iq ⊢
  refine C1 (fun H=>?_) (fun X=>?_)
  ·have e:A96 M n cols=0:=by unfold A96;grind
   exact hK y g o bo rb c0 pA pc ⟨false,none,0,0,false,none,0,0⟩ lg t ow ap (by rw [e];exact NQ.zero)
  ·have e:A96 M n cols=(ecE M n cols).det:=by unfold A96;grind
   grind
 refine C1 (fun H=>?_) (fun X=>Q gz0)
 have T:c<cols:=oo
 have O:c<w:=oo
 refine C1 (fun F=>?_) (fun F=>Q (by
  have:=B0h (n:=n) (s:=⟨M,[],1⟩) (c:=c) gz0 (cols-c)
  grind))
 have aa:(ecE M n c).cs.length<n:=oo
 have ah:=(SzE.run (n:=n) (w:=w) (m:=m) (s:=⟨M,[],1⟩) ⟨fun a b ha hb=>by show Sz (7^0*m) (M a b);grind,by show Sz (7^0*m) 1;rw [Nat.pow_zero,cD];exact Sz.int (z:=1) (ZB.one hm1) hm1,aP _⟩ hm1 c oo)
 have f:SzE n w m (ecE M n c):=ah
 have C:ecE M n (c+1)=Al n c (ecE M n c):=rfl
 have ar:7^(ecE M n c).cs.length*m*7<=7^nq*m:=by
  have h1:7^(ecE M n c).cs.length*7<=7^nq:=by rw [<- Nat.pow_succ];exact bG dc (hnq c T)
  calc 7^(ecE M n c).cs.length*m*7=7^(ecE M n c).cs.length*7*m:=gz0
   _<=7^nq*m:=aG _ h1
 have ad:=Nq (ecE M n c).cs.length m hm1
 obtain ⟨r1,r2,r3,r4⟩:=Xh n c (ecE M n c) f.len
 have V:C4 ((c:Int)+1)=((c+1:Nat):Int):=by rw [C2]<;>omega
 generalize hst:ecE M n c=st at *
 generalize hB:7^st.cs.length*m=B at *
 refine ⟨fun L S=>L=[I ((Hj n c st:Nat):Int)]/\S=y,⟨fun L S=>∃ k:Nat,st.cs.length<=k/\k<=Hj n c st/\L=[I (k:Int)]/\S=y,fun L _=>n-(iAt L 0).toNat,⟨st.cs.length,aE _,r1,rfl,rfl⟩,?_⟩,?_⟩
 ·rintro z S ⟨k,an,al,W,rfl⟩
  obtain rfl:z=(k:Int):=gz0
  refine C1 (fun H=>?_) (fun X=>⟨gz0,rfl⟩)
  have G:k<n:=oo
  obtain ⟨ch,aw,r⟩:=t.head G
  obtain ⟨x,ix,x0,x1,x2,x3⟩:=t.elem G O
  refine ⟨_,rfl,oo,oo,_,_,_,t.sep.cell r,_,rfl,oo,oo,_,_,_,_,_,_,_,_,t.sep.cell x0,t.sep.cell x1,t.sep.cell x2,t.sep.cell x3,?_⟩
  refine S2 (ix.mono t.sep.le) ⟨_,rfl,D5 (fun e=>?_) (fun e=>?_)⟩
  ·have e0:st.R k c=0:=by simp_all
   have aj:k<Hj n c st:=by
    grind
   rw [wiS k oo]
   exact ⟨⟨k+1,oo,oo,rfl,rfl⟩,by simp only [O8];omega⟩
  ·have e0:st.R k c≠0:=fun h=>e (by simp_all)
   grind
 rintro k1 S ⟨W,rfl⟩
 obtain rfl:k1=((Hj n c st:Nat):Int):=gz0
 refine C56 (B:=B) (wd0:=⟨d0,E,p,D,d2,l,u,q⟩) rfl t ow ap iq aa r2 O hn hw ad (by rw [<- hB];exact f.det) (fun a b ha hb=>by rw [<- hB];exact f.R a b ha hb) oo (fun ak=>?_) (fun aq=>?_)
 ·have N:Al n c st={ st with det:=0 }:=by unfold Al;grind
  rw [V]
  refine ⟨⟨c+1,g,o,rb,pA,pc,⟨false,none,0,0,false,none,0,0⟩,oo,?_,lg,?_⟩,?_⟩
  ·grind
  ·rw [C,N];exact ⟨t,ow,ap,NQ.zero⟩
  ·show cols-((c+1:Nat):Int).toNat<cols-((c:Nat):Int).toNat
   omega
 ·intro h' g' o' ae A6 c6 ag ac t' av am au
  have N:Al n c st={ R:=elimE (fun i=>st.R (xch st.cs.length (Hj n c st) i)) st.cs.length c,cs:=st.cs++[c],det:=(if Hj n c st=st.cs.length then st.det else-st.det)*st.R (Hj n c st) c }:=by unfold Al;grind
  rw [V]
  refine ⟨⟨c+1,g',o',ae,A6,c6,ag,oo,?_,B0 lg ac,?_⟩,?_⟩
  ·grind
  ·grind
  ·show cols-((c+1:Nat):Int).toNat<cols-((c:Nat):Int).toNat
   omega
def Ok{cols:Nat}(rs:RowsV h A n w M)(hn1:1<=n)(hn:n<=10000)(hw1:1<=w)(hw:w<=10000)(hc:cols<=w)(hm1:1<=m)(hs:∀i j,i<n->j<w->Sz m (M i j))(hm:7^cols*m<=100000000) (hK:∀h' g' o' bo rb c' A' cap' wd,h.le g'->Mt h' g' o' bo rb n w (ecE M n cols).R->OwnSl o' 3 A' cap' (zs (ecE M n cols).cs)->Rn bo rb n A'->NQ g' wd (A96 M n cols)-> K (.tuple #[.slice (some ⟨bo,0,none⟩) n c',.slice A' (ecE M n cols).cs.length cap',wd.v]) h'):aJ prog 75 #[.slice A n cap,I (cols:Int)] h K:=Kj rs hn1 hn hw1 hw hc hm1 hs (fun c d=>Nat.lt_of_le_of_lt (Q6 M n c).1 d) hm hK
end
section
variable {h:aD} {K:VP} {A B:Option aF} {n m a b:Nat} {r c r2 c2:Int} {ls ls2:Nat->List UInt8}
def SlF.iat{xs:List Int}(s:SlF h A xs){i:Nat}(hi:i<xs.length):∃x,A=some x/\h.cell? (aC x (i*1))=some (I xs[i]):=by obtain⟨x,e,c⟩:=SlF.at dc s hi;have:=c 0 _ rfl;rw[Fu]at this;exact⟨x,e,this⟩
structure Small (r c:Int) (n:Nat) (ls:Nat->List UInt8) (k d:Int):Prop where
 hr:r<=k
 hc:c<=k
 hn:(n:Int)<=k*k+2
 hl:∀ i,i<n->((ls i).length:Int)<=d
end
def B55(ls:List (List UInt8)):(ls.flatMap fun l=>[Value.string (bs l)])=ls.map fun l=>Value.string (bs l):=by
 induction ls with
 |nil=>rfl
 |cons x l ih=>rw[List.flatMap_cons,ih];rfl
def A57(R:Nat->Nat->Rat)(cs:List Nat)(c:Nat):Nat->Nat->Rat
 |0=>fun j=>if j=c then 1 else 0
 |k+1=>fun j=>if j=cs.getD k 0 then-R k c else A57 R cs c k j
def Lp(cs:List Nat):Nat->List Nat
 |0=>[]
 |c+1=>if c∈cs then Lp cs c else Lp cs c++[c]
def Md(cs:List Nat):Nat->Nat
 |0=>0
 |c+1=>if c∈cs then Md cs c+1 else Md cs c
def Xz(cs:List Nat):∀c,(Lp cs c).length+Md cs c=c:=by
 intro c
 induction c with
 |zero=>rfl
 |succ c ih=>
  show(if c∈cs then Lp cs c else Lp cs c++[c]).length+(if c∈cs then Md cs c+1 else Md cs c)=c+1;split;·omega
  ·rw[aR];simp only[List.length_cons,List.length_nil];omega
def Oj(cs:List Nat):∀c,∀x∈Lp cs c,x<c/\x∉cs:=by
 intro c
 induction c with
 |zero=>intro x d;exact absurd d (by simp[Lp])
 |succ c ih=>
  intro x d;unfold Lp at d;split at d;·have:=ih x d;exact⟨o,this.2⟩
  ·rename_i e;rcases List.mem_append.1 d with d|d;·have:=ih x d;exact⟨o,this.2⟩
   ·simp only[List.mem_cons,List.not_mem_nil,or_false]at d;subst d;exact⟨o,e⟩
def A7t{cs:List Nat}(h:cs.Pairwise (· < ·)):∀c,Md cs c<=cs.length/\(∀i (hi:i<cs.length),i<Md cs c->cs[i]<c)/\(∀i (hi:i<cs.length),Md cs c<=i->c<=cs[i]):=by
 intro c
 induction c with
 |zero=>exact⟨aP _,fun i hi h=>absurd h (Nat.not_lt_zero _),fun _ _ _=>aP _⟩
 |succ c ih=>
  obtain⟨p,g,m⟩:=ih;have pw:=List.pairwise_iff_getElem.1 h;unfold Md;split
  ·rename_i j;obtain⟨k,f,e⟩:=List.getElem_of_mem j;have:Md cs c<=k:=Nat.not_lt.1 fun d=>by have:=g k f d;omega
   have q:k=Md cs c:=cH (Nat.not_lt.1 fun d=>by
    have l:Md cs c<cs.length:=o;have:=pw (Md cs c) k l f d;have:=m (Md cs c) l (aE _);omega) this;refine⟨o,fun i hi d=>?_,fun i hi d=>?_⟩
   ·by_cases n:i=k;·subst n;omega
    ·have:=g i hi o;omega
   ·have:=pw k i f hi o;omega
  ·rename_i j;refine⟨p,fun i hi d=>by have:=g i hi d;omega,fun i hi d=>?_⟩;have:=m i hi d;have:cs[i]≠c:=fun e=>j (e▸bO hi);omega
def A6y{cs:List Nat}{c:Nat}(h:Asc cs c):Md cs c=cs.length:=by obtain⟨e,g,f⟩:=A7t h.asc c;refine cH e (Nat.not_lt.1 fun d=>?_);have:=f _ d (aE _);have:=h.lt _ (bO d);omega
def Ut{cs:List Nat}{c:Nat}(h:Asc cs c):(Lp cs c).length=c-cs.length:=by have:=Xz cs c;rw[A6y h]at this;omega
def B8v{cs:List Nat}(h:cs.Pairwise (· < ·))(c:Nat):c∈cs ↔ ∃hk:Md cs c<cs.length,cs[Md cs c]=c:=by obtain⟨l,g,i⟩:=A7t h c;constructor;{intro j;obtain⟨k,hk,e⟩:=List.getElem_of_mem j;have a:Md cs c<=k:=Nat.not_lt.1 fun d=>by{have:=g k hk d;omega};have f:Md cs c<cs.length:=o;refine⟨f,cH ?_ (i _ f (aE _))⟩;rcases Nat.lt_or_ge (Md cs c) k with d|d;{have:=List.pairwise_iff_getElem.1 h _ _ f hk d;omega};·have:Md cs c=k:=o;subst this;omega};·rintro⟨hk,e⟩;rw[<- e];exact bO hk
def B8z(R:Nat->Nat->Rat)(cs:List Nat)(cols:Nat):Nat->Nat->Rat:=fun i=>A57 R cs ((Lp cs cols).getD i 0) cs.length
section
variable {h:aD} {K:VP} {A B:Option aF} {n cap m:Nat} {r c:Int} {ls:Nat->List UInt8}
def A74{E:Nat->Rat}{rows cols:Nat}(hs:∀i,i<rows*cols->Sz m (E i)):∀i j,i<rows->j<cols->Sz m (mtx E cols i j):=fun _ _ d c=>hs _ (R8 d c)
def B2c{M:Nat->Nat->Rat}{n w c nq:Nat}(hs:∀i j,i<n->j<w->Sz m (M i j))(hm:1<=m)(hc:c<=w)(hnq:(ecE M n c).cs.length<=nq){b:Nat}(hb:7^nq*m<=b):(∀i j,i<n->j<w->Sz b ((ecE M n c).R i j))/\Sz b (ecE M n c).det:=by have z:SzE n w m ⟨M,[],1⟩:=⟨fun i j e d=>by simpa using hs i j e d,by simpa using (⟨ZB.one hm,ZB.one hm⟩:Sz m 1),aP _⟩;have y:=z.run hm c hc;have f:7^(ecE M n c).cs.length*m<=7^nq*m:=aG _ (bG dc hnq);exact⟨fun i j e d=>(y.R i j e d).mono (by show 7^(ecE M n c).cs.length*m<=b;omega),y.det.mono (by show 7^(ecE M n c).cs.length*m<=b;omega)⟩
def B72{M:Nat->Nat->Rat}{n w c:Nat}(hs:∀i j,i<n->j<w->Sz m (M i j))(hm:1<=m)(hc:c<=w){b:Nat}(hb:7^c*m<=b):(∀i j,i<n->j<w->Sz b ((ecE M n c).R i j))/\Sz b (ecE M n c).det:=B2c hs hm hc (Q6 M n c).1 hb
end
def B94(cs:List Nat){i:Nat}(hi:i<cs.length):(zs cs)[i]'(by rw[List.length_map];exact hi)=((cs.getD i 0:Nat):Int):=by rw[List.getElem_map,cM,cO hi];rfl
def B6k{h:aD}{A:Option aF}{cs:List Nat}(s:SlF h A (zs cs)){i:Nat}(hi:i<cs.length):∃x,A=some x/\h.cell? (aC x (i*1))=some (I ((cs.getD i 0:Nat):Int)):=by obtain⟨x,e,c⟩:=SlF.iat s (i:=i) (by rw[List.length_map];exact hi);rw[B94 cs hi]at c;exact⟨x,e,c⟩
def B1y{cs:List Nat}{c:Nat}(h:Asc cs c){i:Nat}(hi:i<cs.length):cs.getD i 0<c:=by rw[cM,cO hi];exact h.lt _ (bO hi)
def B4o{cs:List Nat}{c:Nat}(h:c∉cs):Md cs (c+1)=Md cs c:=iN h
section
variable {h:aD} {K:VP} {A:Option aF} {n cap m w:Nat} {r c:Int} {ls:Nat->List UInt8} {M:Nat->Nat->Rat}
end
section
variable {α β:Type} {R:aD->α->β->Prop} {g:aD}
def Row.app{xs ys:List α}{f:Nat->β}{p q:Nat}(hp:xs.length=p)(r:Row R g xs p f)(r2:Row R g ys q (fun j=>f (p+j))):Row R g (xs++ys) (p+q) f:=fun i d=>by by_cases h:i<p;{obtain⟨w,e,x⟩:=r i h;exact⟨w,by rw[List.getElem?_append_left o];exact e,x⟩};·obtain⟨w,e,x⟩:=r2 (i-p) o;refine⟨w,by rw[cL o,hp];exact e,?_⟩;have c:p+(i-p)=i:=o;show R g w (f i);rw[<- c];exact x
end
section
variable {h:aD} {K:VP} {A:Option aF} {n cap m:Nat} {r c:Int} {ls:Nat->List UInt8}
def Kq{z:Int}(hz: -9223372036854775808<=z/\z<=9223372036854775807)(hK:∀w h',h.le h'->RQ h' w (z:Rat)->K w.v h'):aJ prog 157 #[I z] h K:=by refine(fnk func157 (own:=[2])) ?_;exact Eu hz.1 hz.2 fun d A1 c c1 h' l i=>⟨_,_,_,_,rfl,hK _ h' l (A6n i)⟩
end
def J5(E b:Nat->Rat)(cols:Nat):Nat->Rat:=fun k=>if k%(cols+1)<cols then E (k/(cols+1)*cols+k%(cols+1))else b (k/(cols+1))
def dm1{i j c:Nat}(hj:j<c):(i*c+j)/c=i/\(i*c+j)%c=j:=by rw[cX,Nat.add_mul_mod_self_right,Nat.mod_eq_of_lt hj,Nat.add_mul_div_right _ _ o,bZ hj,aI];omega
def Mf(E b:Nat->Rat){cols i j:Nat}(hj:j<cols):mtx (J5 E b cols) (cols+1) i j=mtx E cols i j:=by obtain⟨d,c⟩:=dm1 (i:=i) (show j<cols+1 from o);show J5 E b cols (i*(cols+1)+j)=_;unfold J5;rw[d,c,iP hj];rfl
def Jk(E b:Nat->Rat)(cols i:Nat):mtx (J5 E b cols) (cols+1) i cols=b i:=by obtain⟨d,c⟩:=dm1 (i:=i) (show cols<cols+1 from o);show J5 E b cols (i*(cols+1)+cols)=_;unfold J5;grind
def Sc{E b:Nat->Rat}{rows cols m:Nat}(hs:∀i,i<rows*cols->Sz m (E i))(hb:∀i,i<rows->Sz m (b i)):∀i,i<rows*(cols+1)->Sz m (J5 E b cols i):=by intro i d;have c:i/(cols+1)<rows:=aW gz0;unfold J5;by_cases e:i%(cols+1)<cols;{rw[iP e];exact hs _ (R8 c e)};grind
abbrev Ng(E b:Nat->Rat)(rows cols:Nat):ES:=elE (J5 E b cols) rows (cols+1) cols
def S0(E b:Nat->Rat)(rows cols:Nat):Prop:=∀i,i<rows->(Ng E b rows cols).cs.length<=i->(Ng E b rows cols).R i cols=0
def Hi(E b:Nat->Rat)(rows cols:Nat):Nat->Rat:=Xg (fun _=>0) (fun m=>(Ng E b rows cols).R m cols) 0 (Ng E b rows cols).cs
def A6u(f:Nat->Rat)(cs:List Nat):Nat->Nat->Rat
 |0=>fun _=>0
 |k+1=>fun j=>if j=cs.getD k 0 then f k else A6u f cs k j
def B0w(f:Nat->Rat)(cs:List Nat):∀k,k<=cs.length->Xg (A6u f cs k) f k (cs.drop k)=Xg (fun _=>0) f 0 cs:=by
 intro k
 induction k with
 |zero=>intro _;rfl
 |succ k ih=>
  intro c;rw[<- ih o,List.drop_eq_getElem_cons (show k<cs.length from o)];have e:cs.getD k 0=cs[k]:=gz0;show Xg (A6u f cs (k+1)) f (k+1) (cs.drop (k+1))=Xg (fun j=>if j=cs[k]then f k else A6u f cs k j) f (k+1) (cs.drop (k+1));rw[<- e];rfl
def Sh(f:Nat->Rat)(cs:List Nat):A6u f cs cs.length=Xg (fun _=>0) f 0 cs:=by have:=B0w f cs cs.length (aE _);rw[List.drop_length]at this;exact this
def A6l(E b:Nat->Rat)(rows cols:Nat):EqA rows (cols+1) cols (mtx (J5 E b cols) (cols+1)) (Ng E b rows cols):=EqA.run _ cols o
def A3k{cs:List Nat}{c:Nat}(h:Asc cs c):cs.Nodup:=h.asc.imp fun h=>Nat.ne_of_lt h
def Th{E b:Nat->Rat}{rows cols:Nat}(h:S0 E b rows cols){i:Nat}(hi:i<rows):sm cols (fun j=>mtx E cols i j*Hi E b rows cols j)=b i:=by have d:(Ng E b rows cols).cs.Nodup:=A3k (Dl rows ⟨_,[],1⟩ rfl cols);have:=(A6l E b rows cols).sol d h hi;rw[Jk]at this;rw[<- this];exact C5 fun j c=>by rw[Mf E b c];rfl
def Xf{E b:Nat->Rat}{rows cols:Nat}(x:Nat->Rat)(h:∀i,i<rows->sm cols (fun j=>mtx E cols i j*x j)=b i):S0 E b rows cols:=by intro i d f;obtain⟨T,e⟩:=(A6l E b rows cols).comb;rw[e i cols d o];have m:∀j,j<cols->sm rows (fun l=>T i l*mtx E cols l j)=0:=by{intro j c;rw[C5 (g:=fun l=>T i l*mtx (J5 E b cols) (cols+1) l j) fun l _=>by rw[Mf E b c],<- e i j d o];exact(A6l E b rows cols).zero i j d f c};rw[C5 (g:=fun l=>sm cols fun j=>T i l*mtx E cols l j*x j) fun l k=>by rw[Jk,<- h l k,<- J3];grind];rw[V5];refine K7 fun j c=>?_;rw[C5 (g:=fun l=>x j*(T i l*mtx E cols l j)) fun l _=>aQ _ _,J3,m j c,aX]
def B3z{E b:Nat->Rat}{rows cols:Nat}(h:¬S0 E b rows cols):∃y:Nat->Rat,(∀j,j<cols->sm rows (fun l=>y l*mtx E cols l j)=0)/\sm rows (fun l=>y l*b l)=1:=by have:∃i,i<rows/\(Ng E b rows cols).cs.length<=i/\(Ng E b rows cols).R i cols≠0:=by{refine cN fun m=>h fun i e d=>cN fun c=>m ⟨i,e,d,c⟩};obtain⟨i,e,d,c⟩:=this;obtain⟨y,k,g⟩:=(A6l E b rows cols).none e d c;refine⟨y,fun j f=>?_,?_⟩;{rw[<- k j f];exact C5 fun l _=>by rw[Mf E b f]};·rw[<- g];exact C5 fun l _=>by rw[Jk]
def A3w(E b:Nat->Rat)(rows cols:Nat):Nat->Rat:=fun k=>if k<cols*rows then E (k%rows*cols+k/rows)else b (k-cols*rows)
def B4b(cols:Nat):Nat->Rat:=fun i=>if i=cols then 1 else 0
def B4a(E b:Nat->Rat){rows cols i j:Nat}(hi:i<cols)(hj:j<rows):mtx (A3w E b rows cols) rows i j=mtx E cols j i:=by obtain⟨d,c⟩:=dm1 (i:=i) hj;show A3w E b rows cols (i*rows+j)=_;unfold A3w;rw[iP (R8 hi hj),d,c];rfl
def B0k(E b:Nat->Rat){rows cols j:Nat}:mtx (A3w E b rows cols) rows cols j=b j:=by show A3w E b rows cols (cols*rows+j)=_;unfold A3w;grind
def C0p{E b:Nat->Rat}{rows cols:Nat}(h:¬S0 E b rows cols):S0 (A3w E b rows cols) (B4b cols) (cols+1) rows:=by obtain⟨y,c,f⟩:=B3z h;refine Xf y fun i g=>?_;unfold B4b;by_cases e:i=cols;{subst e;rw[iP rfl,<- f];exact C5 fun j _=>by rw[B0k,aQ]};·rw[iN e,<- c i o];exact C5 fun j d=>by rw[B4a E b o d,aQ]
def A4f{E b:Nat->Rat}{rows cols m B:Nat}(hB:1<=B)(hs:∀i j,i<rows->j<cols+1->Sz B ((Ng E b rows cols).R i j))(j:Nat):Sz B (Hi E b rows cols j):=by
 have c:(Ng E b rows cols).cs.length<=rows:=(Q6 (mtx (J5 E b cols) (cols+1)) rows cols).2;unfold Hi;rw[<- Sh]
 have:∀k,k<=(Ng E b rows cols).cs.length->Sz B (A6u (fun m=>(Ng E b rows cols).R m cols) (Ng E b rows cols).cs k j):=by
  intro k
  induction k with
  |zero=>intro _;exact Sz.zero hB
  |succ k ih=>
   intro d;show Sz B (if j=_ then _ else _);grind
 grind
