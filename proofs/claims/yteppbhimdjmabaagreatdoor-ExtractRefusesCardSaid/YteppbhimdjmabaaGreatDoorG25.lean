/- A part. -/
import Derived.Test.YteppbhimdjmabaaGreatDoorG24
import Derived.Test.YteppbhimdjmabaaGreatDoorG23
open Go.Proofs.Tryz
set_option linter.all false
open _root_.Go.Addr renaming add->aE
open _root_.Go.Instr renaming storeAt->aX
open Int renaming mul_comm->aT,mul_le_mul_of_nonneg_left->aY,natAbs_mul->bG,toNat_natCast->bI,pow_pos->bJ,dvd_mul_of_dvd_left->bK,mul_assoc->bX,natAbs_natCast->bZ,tdiv->cI,le_of_lt->cJ,zero_tdiv->cQ,eq_ofNat_of_zero_le->cV,zero_add->cZ,sign_eq_one_of_pos->dB,mul_zero->dC,add_zero->dE
open List renaming eq_nil_of_length_eq_zero->aM,take_append_drop->aO,getD_eq_getElem?_getD->aP,map_cons->aU,length_cons->aW,range->bF,nil_append->bO,replicate->bU,map_nil->cF,append_assoc->cH,ext_getElem->cL,getElem?_cons_zero->cT,getElem?_cons_succ->cU,toArray->cX,take_of_length_le->cY
open Nat renaming mul_le_mul_right->aH,le_refl->aJ,zero_add->aS,add_sub_cancel->aV,gcd->bH,add_comm->cD,eq_one_of_mul_eq_one_right->cK,div_le_self->cM,lt_irrefl->cO,add_assoc->cP,add_sub_cancel_left->cR,add_zero->cW
open Rat renaming intCast_mul->aC,mul_nonneg->aF,mul_pos->aK,add_zero->aR,zero_mul->aZ,le_of_mul_le_mul_right->bC,mul_zero->bL,intCast_neg->bM,intCast_add->bN,divInt->bY,mul_comm->cC
open _root_ renaming Nat->J,Int->Z,Rat->Y,List->dF
open _root_.Go renaming Addr->aL,TypeId->aQ,Value->cN
open _root_.Go.Proofs.YteppbhimdjmabaaGreatDoor renaming Heap->aI,FCall->aN
namespace Go.Proofs.YteppbhimdjmabaaGreatDoor
set_option maxRecDepth 20000
open Go
def B01{x:J}{m:J}(hx:x<2^m)(hm:1<=m)(k:J):x^k<2^(m*k+1):=by have a:x^k<=(2^m)^k:=Nat.pow_le_pow_left (Nat.le_of_lt hx) k;rw[<- Nat.pow_mul]at a;grind
section
variable {h g:aI} {K:VP} {A B:Option aL} {s s':Bool} {an ac bn bc m:J} {x y:Z}
end
def B1k(B:Z):∀{ts:dF Z} {k:J} (_:k<ts.length) (v:Z),val B (ts.set k v)=val B ts+B^k*(v-ts.getD k 0)
 | [],k,h,v=>by simp at h
 |t::ts,0,h,v=>by simp[val];grind
 |t::ts,k+1,h,v=>by
  have ih:=B1k B (ts:=ts) (k:=k) gz0 v;simp only[List.set_cons_succ,val,List.getD_cons_succ,ih,Int.pow_succ];grind
section
variable {h g:aI} {K:VP} {A B:Option aL} {s s':Bool} {an ac bn bc m:J} {x y:Z}
def A97{hp:aI}{n c k:J}{ts:dF Z}{ca:Z}(p:Pw hp g A n c ts)(hn:n=ts.length)(dt:Dig b64 ts)(hk:k<n)(hca:0<=ca/\ca<18446744073709551616){Q:Z->aI->Prop} (hQ:∀h' ts',Pw h' g A n c ts'->n=ts'.length->Dig b64 ts'->val b64 ts'+b64^(k+1)*((ts.getD k 0+ca)/18446744073709551616)=val b64 ts+b64^k*ca->Q ((ts.getD k 0+ca)/18446744073709551616) h'):∃a,A=some a/\0<=(k:Z)/\(k:Z)<((n:J):Z)/\∃(t:Z),Heap.cell? hp (aE a (((k:Z)).toNat*1))=some (U t)/\ECall prog 259 #[U t,U ca,U (0:Z)] hp (fun r hp1=>∃(ta tb:Z),r= .tuple #[U ta,U tb]/\∃a2,A=some a2/\0<=(k:Z)/\(k:Z)<((n:J):Z)/\wpH prog (aX 161 (.pointer (some (aE a2 (((k:Z)).toNat*1)))) (U ta)) (fun _ hp2=>Q tb hp2) hp1):=by have d:ts≠[]:=gz0;obtain⟨b,j,w,u⟩:=Gn p d;have s:=S8 dt k;refine w.sl.load hn o o ?_;refine Ev s hca o ⟨_,_,rfl,?_⟩;obtain⟨a,l,_⟩:=SlV.at w.sl (i:=k) gz0;refine⟨a,l,o,o,w.storeN H0 l o ?_⟩;intro q e;simp only[dE]at e ⊢;have f:=e.priv (m:=n) (c:=c) (by simp_all) gz0 gz0;rw[cY gz0]at f;refine hQ q _ f gz0 (dt.set (Fv _)) ?_;rw[B1k b64 o,Int.pow_succ];grind
def B55{Invv1:LP}{muv1:dF cN->aI->J}{TA:Option aL}{tn tc i x2n:J}{ts:dF Z}{ca:Z}{hp8 hp7:aI}(p:Pw hp8 g TA tn tc ts)(hn:tn=ts.length)(dt:Dig b64 ts)(hle:i+x2n<=tn)(hca:0<=ca/\ca<18446744073709551616)(hl:tn<=1000000000) (hK:∀TA' tn' tc' ts' h' g',g.le g'->Pw h' g' TA' tn' tc' ts'->tn'=ts'.length->Dig b64 ts'->val b64 ts'=val b64 ts+b64^(i+x2n)*ca->(tn'=tn\/(tn'=tn+1/\b64^tn<=val b64 ts'))->Invv1 [.slice TA' tn' tc',I (C4 ((i:Z)+1))] h'/\muv1 [.slice TA' tn' tc',I (C4 ((i:Z)+1))] h'<muv1 [.slice TA tn tc,I (i:Z)] hp7): Fl prog x2n Invv1 muv1 TA tn tc (i:Z) ca hp8 hp7:=by unfold Fl;have X:C4 ((i:Z)+(x2n:Z))=((i+x2n:J):Z):=by{rw[C0 o o];omega};rw[X];refine⟨fun L T=>∃(k:J) (c1:Z) (j:dF Z) (A1:Option aL) (a b:J) (s:aI),L=[.slice A1 a b,U c1,I k]/\g.le s/\Pw T s A1 a b j/\a=j.length/\Dig b64 j/\k<=a/\(0<=c1/\c1<18446744073709551616)/\val b64 j+b64^k*c1=val b64 ts+b64^(i+x2n)*ca/\(a=tn\/(a=tn+1/\c1=0/\b64^tn<=val b64 j)),fun L _=>tn+2-(iAt L 2).toNat,⟨i+x2n,ca,ts,TA,tn,tc,g,rfl,B8 _,p,hn,dt,hle,hca,rfl,.inl rfl⟩,?_⟩;rintro A1 a b c1 k0 aa ⟨k,O,j,A1',ac,C,s,R,z,F,q,du,hk,d,hv,V⟩;obtain⟨⟨rfl,rfl,rfl⟩,rfl,rfl⟩:=R;refine D8 (fun N=>?_) (fun N=>?_);{have e:a=tn:=by{omega};have E:C4 ((k:Z)+1)=((k+1:J):Z):=by{rw[C0 o o];omega};have r:∀(A H D G:cN),tn+2-(iAt [A,H,I ((k+1:J):Z)] 2).toNat<tn+2-(iAt [D,G,I (k:Z)] 2).toNat:=by{intro A H D G;simp only[iAt,cT,cU];omega};refine D4 (fun w=>?_) (fun w=>?_);{have n:k=a:=o;refine Fb U3 F rfl rfl o o ?_;intro A2 c2 h2 Q l2 y;rw[<- List.map_singleton (f:=Value.int .u64),<- List.map_append]at y;have M:Dig b64 (j++[0]):=du.append (Dig.one dc);refine A97 y gz0 M o d ?_;intro W m t l u c;have S:(j++[0]).getD k 0=0:=by{rw[n,q,List.getD,List.getElem?_append_right (aJ _)];simp};rw[S,cZ,Int.ediv_eq_zero_of_lt d.1 d.2]at c ⊢;rw[E];rw[F9,dC,dE,dC,dE]at c;refine⟨⟨k+1,0,m,A2,a+1,c2,Q,rfl,B6 z l2,t,l,u,o,o,?_,.inr ⟨o,rfl,?_⟩⟩,r _ _ _ _⟩;{omega};·rw[c,<- e,<- n];have h5:=C9 (B:=b64) dc du;have h6:b64^k*1<=b64^k*c1:=aY o (cJ (bJ dc));omega};·refine A97 F q du o d ?_;intro W m t l u c;rw[E];have gt:=S8 du k;refine⟨⟨k+1,_,m,A1,a,b,s,rfl,z,t,l,u,o,?_,?_,.inl e⟩,r _ _ _ _⟩;{omega};omega};grind
def B80{XA YA TA:Option aL}{xs ys ts:dF Z}{x2n x2c y2n tn tc N:J}{hp4:aI}(p:Pw hp4 g TA tn tc ts)(hn:tn=ts.length)(dt:Dig b64 ts)(sx:SlI .u64 g XA xs)(hx:x2n=xs.length)(dx:Dig b64 xs)(sy:SlI .u64 g YA ys)(hy:y2n=ys.length)(dy:Dig b64 ys)(hxy:x2n+y2n<=tn)(hN:tn<=N)(hN2:N<=400000000)(hV:val b64 ts+val b64 xs*val b64 ys<b64^N) (hK:∀TA' tn' tc' ts' h' g',g.le g'->Pw h' g' TA' tn' tc' ts'->tn'=ts'.length->Dig b64 ts'->val b64 ts'=val b64 ts+val b64 xs*val b64 ys->tn'<=N->K (.slice TA' tn' tc') h'): Qg prog K XA x2n x2c YA y2n TA tn tc hp4:=by have M:=C9 (B:=b64) dc dx;have i:∀k,val b64 (ys.take k)<=val b64 ys:=by{intro k;have C:=I3 b64 (ys.take k) (ys.drop k);rw[aO]at C;have h2:0<=b64^(ys.take k).length*val b64 (ys.drop k):=Int.mul_nonneg (cJ (bJ dc)) (C9 (B:=b64) dc (dy.drop k));omega};refine⟨fun L hp=>∃(k:J) (a:dF Z) (A1:Option aL) (j d:J) (F:aI),L=[.slice A1 j d,I k]/\g.le F/\Pw hp F A1 j d a/\j=a.length/\Dig b64 a/\k<=y2n/\val b64 a=val b64 ts+val b64 xs*val b64 (ys.take k)/\x2n+y2n<=j/\j<=N,fun L _=>y2n-(iAt L 1).toNat,⟨0,ts,TA,tn,tc,g,rfl,B8 _,p,hn,dt,o,by simp[val],hxy,hN⟩,?_⟩;rintro A1 j d k0 af ⟨k,a,A1',ag,S,F,hL,u,T,aa,du,hk,hv,ad,Q⟩;obtain⟨⟨rfl,rfl,rfl⟩,rfl⟩:=hL;refine B9 (fun C=>?_) (fun C=>?_);{have gy:=S8 dy k;have vy:=C6 b64 ys k;have V:C4 ((k:Z)+(x2n:Z))=((k+x2n:J):Z):=by{rw[C0 o o];omega};refine(sy.mono (B6 u T.le)).load hy o o ?_;have s:a≠[]:=gz0;obtain⟨b,W,w,hc⟩:=Gn T s;refine⟨⟨o,o⟩,⟨o,o⟩,?_⟩;have f:((a.drop k).take (k+x2n-k)).length=xs.length:=gz0;refine Jv (w.sub (l:=k) (m:=k+x2n) (c:=d) o o o) o (sx.mono u) hx ((du.drop k).take _) dx f gy o ?_;intro r c h' e q A y w';rw[f]at e y;have w2:=w.whole (l:=k) (m:=k+x2n) o o o w';refine⟨_,rfl,?_⟩;have ae:(a.take k++r++a.drop (k+x2n)).length=a.length:=by{grind};have n:a.take k++r++a.drop (k+x2n)≠[]:=by{grind};have O:=w2.priv (m:=j) (c:=d) n o o;rw[cY o]at O;have d2:Dig b64 (a.take k++r++a.drop (k+x2n)):=((du.take k).append q).append (du.drop _);have H:a=a.take k++((a.drop k).take (k+x2n-k)++a.drop (k+x2n)):=by{have V:a.drop (k+x2n)=(a.drop k).drop (k+x2n-k):=by{simp_all};rw[V,aO,aO]};have z:val b64 (a.take k++r++a.drop (k+x2n))+b64^(k+x2n)*c=val b64 a+b64^k*(val b64 xs*ys.getD k 0):=by{have e2:val b64 a=val b64 (a.take k)+b64^k*(val b64 ((a.drop k).take (k+x2n-k))+b64^xs.length*val b64 (a.drop (k+x2n))):=by{(conv=>lhs;rw[H]);rw[I3,I3,f,List.length_take,Nat.min_eq_left o]};rw[e2,cH,I3,I3,List.length_take,Nat.min_eq_left o,e,hx,Int.pow_add];generalize b64^k=P at *;generalize b64^xs.length=R at *;grind};refine B55 O o d2 o A o ?_;intro TA' tn' tc' ts' h3 g3 l3 X D d3 ac G;have t:val b64 ts'=val b64 ts+val b64 xs*val b64 (ys.take (k+1)):=by{grind};have E:tn'<=N:=by{rcases G with h4|⟨h4,h5⟩;{omega};·have h6:=aY (i (k+1)) M;grind};have e3:C4 ((k:Z)+1)=((k+1:J):Z):=by{rw[C0 o o];omega};rw[e3];exact⟨⟨k+1,ts',TA',tn',tc',g3,rfl,B6 u l3,X,D,d3,o,t,o,E⟩,by simp only[iAt,cT,cU];omega⟩};grind
def Jx{TA XA YA:Option aL}{ts:dF Z}{tn tc xn xc yn yc N:J}(p:Pw h g TA tn tc ts)(hn:tn=ts.length)(dt:Dig b64 ts)(ma:Mw g XA xn x)(mb:Mw g YA yn y)(hxc:xn<=xc)(hyc:yn<=yc)(hN:tn<=N)(hxy:xn+yn+1<=N)(hN2:N<=400000000)(hV:val b64 ts+x*y<b64^N)
 (hK:∀TA' tn' tc' ts' h' g',g.le g'->Pw h' g' TA' tn' tc' ts'->tn'=ts'.length->Dig b64 ts'->val b64 ts'=val b64 ts+x*y->tn'<=N->K (.slice TA' tn' tc') h'):aN prog 206 #[.slice TA tn tc,.slice XA xn xc,.slice YA yn yc] h K:=by
 refine Yp _ _ _ _ _ _ _ _ _ ?_;refine⟨fun L E=>E=h/\∃(A1 B1:Option aL) (d c1 l c2:J) (k a:Z),L=[.slice A1 d c1,.slice B1 l c2]/\Mw g A1 d k/\Mw g B1 l a/\d<=c1/\l<=c2/\d+l=xn+yn/\k*a=x*y,B9 (fun _=>⟨rfl,_,_,_,_,_,_,y,x,rfl,mb,ma,hyc,hxc,oo,aT _ _⟩) (fun _=>⟨rfl,_,_,_,_,_,_,x,y,rfl,ma,mb,hxc,hyc,rfl,rfl⟩),?_⟩;rintro A1 d c1 B1 l c2 E ⟨rfl,A1',B1',al,ae,ac,ag,k,a,w,T,D,k1,k2,ak,C⟩;obtain⟨⟨rfl,rfl,rfl⟩,rfl,rfl,rfl⟩:=w;have aa:=D.nonneg dc;refine⟨fun L u=>∃(A2 B2:Option aL) (e c3 i c4:J) (V X:Z) (j:aI),L=[.slice A2 e c3,.slice B2 i c4]/\g.le j/\Pw u j TA tn tc ts/\Mw j A2 e V/\Mw j B2 i X/\e+i<=xn+yn+1/\V*X=x*y,B9 (fun _=>?_) (fun _=>⟨_,_,_,_,_,_,k,a,g,rfl,B8 _,p,T,D,oo,C⟩),?_⟩
 ·refine p.call ?_;refine J1 T D k1 k2 oo oo ?_;intro A3 e c3 g3 l3 k3 M3 h3 p3;refine⟨_,_,_,rfl,?_⟩;refine T6 U3 rfl ?_;intro b M
  have t:g3 b=none:=by
   cases hx1:g3 b with
   |none=>rfl
   |some o=>rw[p3.le b o hx1]at M;cases M
  refine⟨_,_,_,rfl,_,_,_,_,_,_,k*a,1,g3.put b (.cells #[U 1] 161),rfl,B6 l3 (Heap.le_put _ t),p3.put M _,M3.mono (Heap.le_put _ t),?_,?_,oo⟩
  ·refine⟨[1],rfl,SlI.new _ _ _ _ _,?_,?_,?_⟩;·intro x hx;grind
   ·unfold Norm;simp
   rfl
  ·have r:=T.lt dc;have B:=D.lt dc
   have G:k*a<b64^(d+l):=by
    rw[Int.pow_add];by_cases h0:a=0
    ·subst h0;rw[dC];exact Int.mul_pos (bJ dc) (bJ dc)
    ·have h1:k*a<b64^d*a:=Int.mul_lt_mul_of_pos_right r oo;have h2:b64^d*a<=b64^d*b64^l:=aY (cJ B) (cJ (bJ dc));omega
   have:=M3.len_le dc G;omega
 rintro A2 e c3 B2 i c4 u ⟨A2',B2',af,am,an,ad,V,X,j,w,lg,p1,M1,M2,ah,z⟩;obtain⟨⟨rfl,rfl,rfl⟩,rfl,rfl,rfl⟩:=w;obtain⟨xs,F,sx,dx,nx,rfl⟩:=M1;obtain⟨ys,O,sy,dy,ny,rfl⟩:=M2;have e1:C4 ((e:Z)+(i:Z))=((e+i:J):Z):=by rw[C0 oo oo];omega
 refine⟨fun L E=>∃(q:dF Z) (A5:Option aL) (m c5:J) (W:aI),L=[.slice A5 m c5]/\j.le W/\Pw E W A5 m c5 q/\m=q.length/\Dig b64 q/\val b64 q=val b64 ts/\m<=N,fun L _=>match L with|[.slice _ n _]=>e+i-n|_=>0,⟨ts,TA,tn,tc,j,rfl,B8 _,p1,hn,dt,rfl,hN⟩,?_⟩
 rintro A5 m c5 aj ⟨q,A5',ao,ai,W,w,c,p5,H,du,A,S⟩;obtain⟨rfl,rfl,rfl⟩:=w;refine B9 (fun h1=>?_) (fun h1=>?_)
 ·refine Fb U3 p5 rfl rfl oo oo ?_;intro A6 c6 h6 g6 l6 p6;rw[<- List.map_singleton (f:=Value.int .u64),<- List.map_append]at p6;refine⟨⟨q++[0],A6,m+1,c6,g6,rfl,B6 c l6,p6,gz0,du.append (Dig.one dc),by rw[F9,A];simp,oo⟩,?_⟩;grind
 ·refine B80 (N:=N) p5 H du (sx.mono c) F dx (sy.mono c) O dy oo S hN2 oo ?_;intro TA' tn' tc' ts' h' g' l' p' R d' s Q;rw[A,z]at s;exact hK TA' tn' tc' ts' h' g' (B6 lg (B6 c l')) p' R d' s Q
def SumS(h g:aI)(b:J)(e:aQ)(N:J)(M v:Z):Prop:=∃(PA NA:Option aL) (pn pc nn nc:J) (ps ns:dF Z) (g1 g2:aI),Pw g1 g PA pn pc ps/\Pw g2 g1 NA nn nc ns/\g2 b=none/\h=g2.put b (.cells #[.slice PA pn pc,.slice NA nn nc] e)/\pn=ps.length/\nn=ns.length/\Dig b64 ps/\Dig b64 ns/\v=val b64 ps-val b64 ns/\pn<=N/\nn<=N/\val b64 ps+val b64 ns<=M
def SumS.le{b:J}{e:aQ}{N:J}{M v:Z}(S:SumS h g b e N M v):g.le h:=by obtain⟨PA,NA,j,l,nn,k,ps,ns,i,f,a,c,d,rfl,_⟩:=S;exact B6 a.le (B6 c.le (Heap.le_put _ d))
def SumS.zero{b:J}{e:aQ}{N:J}(hb:g b=none):SumS (g.put b (.cells #[.slice none 0 0,.slice none 0 0] e)) g b e N 0 0:=⟨none,none,0,0,0,0,[],[],g,g,Priv.nil _ _ _ _,Priv.nil _ _ _ _,hb,rfl,rfl,rfl,Dig.nil,Dig.nil,o,o,o,by simp[val]⟩
def Kk:prog.cellsOf 116=1/\(prog.info? 116).isSome=true:=by constructor<;>kernel_rfl
def O9{b:J}{e:aQ}{N:J}{M v:Z}{N1:J}(S:SumS h g b e N M v)(i:ZI g s A an ac x)(j:ZI g s' B bn bc y)(hab:an+bn+1<=N)(hN2:N<=400000000)(hM:M+(x*y).natAbs<b64^N1)(hN1:N1<=N) (hK:∀h' g',g.le g'->SumS h' g' b e N (M+(x*y).natAbs) (v+x*y)->K (.tuple #[]) h'):aN prog 127 #[.pointer (some ⟨b,0,none⟩),.agg #[.bool s,.slice A an ac],.agg #[.bool s',.slice B bn bc]] h K:=by have aa:=i.zeroIff;have ad:=j.zeroIff;have c1:=Fs i.sgn;have c2:=Fs j.sgn;refine(fnk func127 (own:=[4,5]) (wr:=[206])) ?_;have same:x*y=0->K (.tuple #[]) h:=by{intro C;refine hK h g (B8 _) ?_;grind};refine D4 (fun C=>same gz0) (fun _=>D4 (fun C=>same gz0) (fun _=>?_));obtain⟨PA,NA,pn,pc,nn,nc,ps,ns,g1,g2,D,R,V,rfl,w,m,dp,O,hv,u,z,T⟩:=S;have ae:=C9 (B:=b64) dc dp;have af:=C9 (B:=b64) dc O;have ag:b64^N1<=b64^N:=D7 dc hN1;have C:(aE ⟨b,0,none⟩ 0)=⟨b,0,none⟩:=Cf b 0 0;have e1:(aE ⟨b,0,none⟩ 1)=⟨b,1,none⟩:=Cf b 0 1;refine Br.of (fun hs=>?_) (fun hs=>?_);{have X:x*y= -((x.natAbs:Z)*(y.natAbs:Z)):=by{grind};refine⟨_,rfl,_,_,_,by rw[e1,E6];rfl,?_⟩;refine FCall.frame (K:=fun r L=>∃(TA':Option aL) (c d:J) (a:dF Z) (g':aI),r= .slice TA' c d/\g1.le g'/\Pw L g' TA' c d a/\c=a.length/\Dig b64 a/\val b64 a=val b64 ns+(x.natAbs:Z)*(y.natAbs:Z)/\c<=N) V (Jx (N:=N) R m O (i.mag.mono D.le) (j.mag.mono D.le) i.cap j.cap z hab hN2 o (fun TA' c d a h' g' q t k p l f=>⟨TA',c,d,a,g',rfl,q,t,k,p,l,f⟩)) ?_;·rintro r G n ⟨TA',c,d,a,g',rfl,q,t,k,p,l,f⟩;refine⟨_,_,_,rfl,_,rfl,?_⟩;refine Bu Kk.1 Kk.2 rfl rfl (by simp) ?_;obtain⟨Q,H,E⟩:=D.after q;refine hK _ Q H ⟨PA,TA',pn,pc,c,d,ps,a,g',G,E,t,n,rfl,w,k,dp,p,?_,u,f,?_⟩;{omega};omega};·have W:x*y=(x.natAbs:Z)*(y.natAbs:Z):=by{grind};obtain⟨g4,p4,F⟩:=R.swap D;refine⟨_,rfl,_,_,_,by rw[C,E6];rfl,?_⟩;refine FCall.frame (K:=fun r L=>∃(TA':Option aL) (c d:J) (a:dF Z) (g':aI),r= .slice TA' c d/\g4.le g'/\Pw L g' TA' c d a/\c=a.length/\Dig b64 a/\val b64 a=val b64 ps+(x.natAbs:Z)*(y.natAbs:Z)/\c<=N) V (Jx (N:=N) p4 w dp (i.mag.mono F.le) (j.mag.mono F.le) i.cap j.cap u hab hN2 o (fun TA' c d a h' g' q t k p l f=>⟨TA',c,d,a,g',rfl,q,t,k,p,l,f⟩)) ?_;·rintro r G n ⟨TA',c,d,a,g',rfl,q,t,k,p,l,f⟩;refine⟨_,_,_,rfl,_,rfl,?_⟩;refine Bu Kk.1 Kk.2 rfl rfl (by simp) ?_;obtain⟨Q,H,E⟩:=F.after q;obtain⟨g6,p6,p7⟩:=t.swap E;refine hK _ Q H ⟨TA',NA,c,d,nn,nc,a,ns,g6,G,p7,p6,n,rfl,k,m,p,O,?_,f,z,?_⟩;{omega};omega
def Ht{b:J}{e:aQ}{N:J}{M v:Z}{N1:J}(S:SumS h g b e N M v)(i:ZI g s A an ac x)(j:ZI g s' B bn bc y)(hab:an+bn+1<=N)(hN2:N<=400000000)(hM:M+(x*y).natAbs<b64^N1)(hN1:N1<=N) (hK:∀h' g',g.le g'->SumS h' g' b e N (M+(x*y).natAbs) (v-x*y)->K (.tuple #[]) h'):aN prog 135 #[.pointer (some ⟨b,0,none⟩),.agg #[.bool s,.slice A an ac],.agg #[.bool s',.slice B bn bc]] h K:=by refine(fnk func135 (os:=[(1,[0,1,3,2,4])]) (own:=[4,5]) (wr:=[127])) ?_;refine Z8 (i.mono S.le) ?_;intro d i1;refine⟨_,_,_,_,rfl,B8 _,?_⟩;have c:ZI g d A an ac (-x):=⟨i.cap,by rw[Int.natAbs_neg];exact i.mag,i1.sgn⟩;have a:(-x*y).natAbs=(x*y).natAbs:=gz0;refine O9 (N1:=N1) S c j hab hN2 o hN1 ?_;grind
def Dz{XA YA:Option aL}{xn xc yn yc:J}(ma:Mw h XA xn x)(mb:Mw h YA yn y)(hyx:y<=x)(hl:xn<=1000000000)(hK:∀A' m c' h',h.le h'->m<=c'->Mw h' A' m (x-y)->K (.slice A' m c') h'):aN prog 209 #[.slice XA xn xc,.slice YA yn yc] h K:=by have l:yn<=xn:=mb.len_le dc (Int.lt_of_le_of_lt hyx (ma.lt dc));obtain⟨xs,c,p,s,B,rfl⟩:=ma;obtain⟨A,a,k,r,u,rfl⟩:=mb;refine(fnk func209 (wr:=[262])) ?_;refine N8 U3 o o o ?_;intro b j;refine⟨_,_,_,rfl,?_⟩;have w:=Win.blk .u64 161 j (bU xn 0);refine Fg U3 w (by simp) (p.mono w.le) c gz0 ?_;intro z f;refine⟨_,rfl,?_⟩;rw[List.drop_of_length_le gz0,List.append_nil]at f;refine Fq f c k a s r o hyx o ?_;intro zs t n d e g;refine⟨rfl,?_⟩;refine Cm g.sl d o e (aJ _) o ?_;intro m q i;exact⟨_,_,_,rfl,hK _ _ _ _ g.le q i⟩
def Cp{b:J}{e:aQ}{N:J}{M v:Z}(S:SumS h g b e N M v)(hN2:N<=400000000)(hK:∀s A n c h',h.le h'->ZI h' s A n c v->K (.agg #[.bool s,.slice A n c]) h'):aN prog 128 #[.pointer (some ⟨b,0,none⟩)] h K:=by obtain⟨PA,NA,k,l,nn,q,ps,ns,W,u,w,i,C,rfl,m,p,dp,O,hv,E,T,t⟩:=S;have z:(aE ⟨b,0,none⟩ 0)=⟨b,0,none⟩:=Cf b 0 0;have R:(aE ⟨b,0,none⟩ 1)=⟨b,1,none⟩:=Cf b 0 1;have y:=Heap.le_put (.cells #[.slice PA k l,.slice NA nn q] e) C;refine(fnk func128 (os:=[(1,[0,1,2,3,5,6,7,8,4,9,10,11])]) (own:=[2])) ?_;refine⟨_,rfl,_,_,_,by rw[z,E6];rfl,_,rfl,_,_,_,by rw[R,E6];rfl,?_⟩;have B:SlI .u64 (u.put b (.cells #[.slice PA k l,.slice NA nn q] e)) PA ps:=SlI.mono y (SlI.mono i.le w.slV);have L:SlI .u64 (u.put b (.cells #[.slice PA k l,.slice NA nn q] e)) NA ns:=SlI.mono y i.slV;refine Cm B dp m rfl w.2.1 o ?_;intro X F M1;refine⟨_,_,_,rfl,B8 _,?_⟩;refine Cm L O p rfl i.2.1 o ?_;intro V G M2;refine⟨_,_,_,rfl,B8 _,?_⟩;refine I0 M1 M2 o ⟨_,rfl,?_⟩;refine B9 (fun r=>?_) (fun r=>?_);{have a:val b64 ns<=val b64 ps:=by{unfold Gr at r;omega};refine Dz M1 M2 a o ?_;intro A3 D c3 Q H j M3;obtain⟨d,f⟩:=cV (show 0<=val b64 ps-val b64 ns from o);rw[f]at M3;refine⟨_,_,_,rfl,Q4 (v:=d) M3 j ?_⟩;grind};·have a:val b64 ps<=val b64 ns:=by{unfold Gr at r;omega};refine Dz M2 M1 a o ?_;intro A3 D c3 Q H j M3;obtain⟨d,f⟩:=cV (show 0<=val b64 ns-val b64 ps from o);rw[f]at M3;refine⟨_,_,_,rfl,Q4 (v:=d) M3 j ?_⟩;grind
def B1d(gl:Gtz h)(i:ZI h s A an ac x)(j:ZI h s' B bn bc y)(hx:ZB m x)(hy:ZB m y)(hm:m<=6400000000)(hK:∀A' n' c' h',h.le h'->ZI h' false A' n' c' (Int.lcm x y:Z)->K (.agg #[.bool false,.slice A' n' c']) h'):aN prog 254 #[.agg #[.bool s,.slice A an ac],.agg #[.bool s',.slice B bn bc]] h K:=by have c:=i.zeroIff;have d:=j.zeroIff;have w:=i.len hx hm;have a:=j.len hy hm;refine(fnk func254 (own:=[2,3,4])) ?_;refine D4 (fun k=>?_) (fun O=>D4 (fun k=>?_) (fun H=>?_));{refine hK none 0 0 h (B8 _) ?_;rw[c.2 o,Int.lcm_zero_left];exact ZI.zero};{refine hK none 0 0 h (B8 _) ?_;rw[d.2 o,Int.lcm_zero_right];exact ZI.zero};·refine Pk gl i.mag j.mag i.cap j.cap o o ?_;intro A3 n c3 M b q M3;refine⟨_,_,_,rfl,b,?_⟩;rw[Int.gcd_natCast_natCast]at M3;have E:bH x.natAbs y.natAbs≠0:=fun e=>by{grind};have u:n<=100000000:=by{refine Nat.le_trans (M3.len_le dc (j:=bn) ?_) a;have r:=j.mag.lt dc;have l:bH x.natAbs y.natAbs<=y.natAbs:=Nat.gcd_le_right _ o;omega};refine Y7 (j.mag.mono b) M3 j.cap q o o o ?_;intro A4 p c4 A5 D c5 F f C G M4 M5;refine⟨_,_,_,_,_,_,rfl,f,?_⟩;have g:p<=100000000:=by{refine Nat.le_trans (M4.len_le dc (j:=bn) ?_) a;have r:=j.mag.lt dc;have l:=cM y.natAbs (bH x.natAbs y.natAbs);omega};refine J1 (i.mag.mono (B6 b f)) M4 i.cap C o o ?_;intro A6 L c6 N z t M6;refine⟨_,_,_,rfl,hK _ _ _ _ (B6 b (B6 f z)) ⟨t,?_,?_⟩⟩;{have:Int.lcm x y=x.natAbs*(y.natAbs/bH x.natAbs y.natAbs):=by{show Nat.lcm x.natAbs y.natAbs=_;rw[Nat.lcm,Nat.mul_div_assoc _ (Nat.gcd_dvd_right _ _)]};grind};rfl
end
abbrev RQr:aI->QV->Y->Prop:=fun h w q=>RQ h w q
abbrev NQr:aI->QV->Y->Prop:=fun h w q=>NQ h w q
abbrev ZIr:aI->IV->Z->Prop:=fun h w z=>ZI h w.s w.A w.n w.c z
abbrev SSr:aI->dF UInt8->dF UInt8->Prop:=fun _ w s=>w=s
def Mon{α β:Type}(R:aI->α->β->Prop):Prop:=∀(h h':aI) (w:α) (x:β),h.le h'->R h w x->R h' w x
def H2:Mon RQr:=fun _ _ _ _ hl i=>⟨i.num.mono hl,i.den.mono hl⟩
def O6:Mon NQr:=fun _ _ _ _ hl i=>NQ.mono hl i
def Q8:Mon ZIr:=fun _ _ _ _ hl i=>i.mono hl
def F1:Mon SSr:=fun _ _ _ _ _ i=>i
instance:Enc QV:=⟨⟨fun w=>[.bool w.s,.slice w.A w.n w.c,.bool w.s2,.slice w.A2 w.n2 w.c2],4,fun _=>rfl,fun w v hv=>by simp at hv;rcases hv with rfl|rfl|rfl|rfl<;>rfl⟩⟩
section
variable {α β:Type}
def Row(R:aI->α->β->Prop)(g:aI)(xs:dF α)(n:J)(f:J->β):Prop:=∀i,i<n->∃w,xs[i]? = some w/\R g w (f i)
variable {R:aI->α->β->Prop} {g g' h h':aI} {xs:dF α} {n:J} {f:J->β}
def Row.mono(m:Mon R)(hl:g.le g')(r:Row R g xs n f):Row R g' xs n f:=fun i b=>by obtain⟨w,e,a⟩:=r i b;exact⟨w,e,m _ _ _ _ hl a⟩
def Row.nil:Row R g xs 0 f:=fun i a=>by omega
def Row.set{k:J}(r:Row R g xs k f)(hk:k<xs.length){w:α}(hw:R g w (f k)):Row R g (xs.set k w) (k+1) f:=fun i a=>by by_cases e:i=k;{grind};·obtain⟨u,c,b⟩:=r i o;grind
def Row.upd(r:Row R g xs n f){k:J}(hk:k<xs.length){w:α}{y:β}(hw:R g w y):Row R g (xs.set k w) n (fun i=>if i=k then y else f i):=fun i a=>by by_cases e:i=k;{grind};·obtain⟨u,c,b⟩:=r i a;grind
def Row.push(r:Row R g xs xs.length f){w:α}(hw:R g w (f xs.length)):Row R g (xs++[w]) (xs++[w]).length f:=fun i a=>by by_cases e:i=xs.length;{grind};·obtain⟨u,c,b⟩:=r i gz0;grind
def Row.congr{f':J->β}(r:Row R g xs n f)(h:∀i,i<n->f i=f' i):Row R g xs n f':=fun i a=>by obtain⟨w,e,b⟩:=r i a;grind
def Row.get(r:Row R g xs n f){i:J}(hi:i<n)(hl:i<xs.length):R g xs[i] (f i):=by obtain⟨w,e,a⟩:=r i hi;grind
variable [E:Enc α]
def RowV(R:aI->α->β->Prop)(h:aI)(A:Option aL)(n:J)(f:J->β):Prop:=∃xs:dF α,SlF h A xs/\xs.length=n/\Row R h xs n f
def RowV.mono(m:Mon R){A:Option aL}(hl:h.le h')(r:RowV R h A n f):RowV R h' A n f:=by obtain⟨xs,s,e,r⟩:=r;exact⟨xs,s.mono hl,e,r.mono m hl⟩
def RowV.nil{A:Option aL}:RowV R h A 0 f:=⟨[],SlF.nil,rfl,Row.nil⟩
def RowV.congr{A:Option aL}{f':J->β}(r:RowV R h A n f)(e:∀i,i<n->f i=f' i):RowV R h A n f':=by obtain⟨xs,s,l,r⟩:=r;exact⟨xs,s,l,r.congr e⟩
def RowV.cut{A:Option aL}(r:RowV R h A n f){c l k:J}(hlk:l+k<=n)(hc:n<=c):RowV R h (X9 A c l E.default.size) k (fun i=>f (l+i)):=by obtain⟨xs,s,e,r⟩:=r;refine⟨(xs.drop l).take (l+k-l),s.cut (l:=l) (m:=l+k) o o o,gz0,fun i b=>?_⟩;obtain⟨w,d,a⟩:=r (l+i) o;grind
def RowV.at(pos:0<E.default.size){A:Option aL}(r:RowV R h A n f){i:J}(hi:i<n):∃a w,A=some a/\R h w (f i)/\∀j v,(enc w)[j]? = some v->h.cell? (aE (aE a (i*E.default.size)) j)=some v:=by obtain⟨xs,s,e,r⟩:=r;obtain⟨a,b,c⟩:=SlF.at pos s (i:=i) o;exact⟨a,xs[i],b,r.get hi o,c⟩
structure Own (R:aI->α->β->Prop) (h h':aI) (b n:J) (f:J->β):Prop where
 ex:∃ g o xs,h.le g/\Sep h' g o/\RowX o b xs/\xs.length=n/\Row R g xs n f
def Own.le{b:J}(w:Own R h h' b n f):h.le h':=by obtain⟨g,o,xs,l,s,_⟩:=w.ex;exact B6 l s.le
def Own.vis(m:Mon R){b:J}(w:Own R h h' b n f):RowV R h' (some ⟨b,0,none⟩) n f:=by obtain⟨g,o,xs,l,s,r,e,q⟩:=w.ex;exact⟨xs,r.rowB.slF s.ole,e,q.mono m s.le⟩
def Own.weak{h0:aI}{b:J}(l:h0.le h)(w:Own R h h' b n f):Own R h0 h' b n f:=by obtain⟨g,o,xs,a,x⟩:=w.ex;exact⟨g,o,xs,B6 l a,x⟩
end
section
variable {h:aI} {A:Option aL} {n:J}
def RowV.qat{R:aI->QV->Y->Prop}{f:J->Y}(r:RowV R h A n f){i:J}(hi:i<n):∃a w,A=some a/\R h w (f i)/\h.cell? (aE (aE a (i*4)) 0)=some (.bool w.s)/\h.cell? (aE (aE a (i*4)) 1)=some (.slice w.A w.n w.c)/\h.cell? (aE (aE a (i*4)) 2)=some (.bool w.s2)/\h.cell? (aE (aE a (i*4)) 3)=some (.slice w.A2 w.n2 w.c2):=by obtain⟨a,w,e,d,b⟩:=r.at dc hi;exact⟨a,w,e,d,b 0 _ rfl,b 1 _ rfl,b 2 _ rfl,b 3 _ rfl⟩
def RowV.zat{f:J->Z}(r:RowV ZIr h A n f){i:J}(hi:i<n):∃a w,A=some a/\ZIr h w (f i)/\h.cell? (aE (aE a (i*2)) 0)=some (.bool w.s)/\h.cell? (aE (aE a (i*2)) 1)=some (.slice w.A w.n w.c):=by obtain⟨a,w,e,d,b⟩:=r.at dc hi;exact⟨a,w,e,d,b 0 _ rfl,b 1 _ rfl⟩
def RowV.sat{f:J->dF UInt8}(r:RowV SSr h A n f){i:J}(hi:i<n):∃a,A=some a/\h.cell? (aE a (i*1))=some (.string (bs (f i))):=by obtain⟨a,w,e,c,d⟩:=r.at dc hi;have b:w=f i:=c;subst b;refine⟨a,e,?_⟩;have:=d 0 _ rfl;assumption
end
end Go.Proofs.YteppbhimdjmabaaGreatDoor
namespace Go.Proofs.YteppbhimdjmabaaGreatDoor
set_option maxRecDepth 20000
def sm:J->(J->Y)->Y
 |0,_=>0
 |n+1,f=>sm n f+f n
def E8{n:J}{f g:J->Y}(h:∀i,i<n->f i=g i):sm n f=sm n g:=by
 induction n with
 |zero=>rfl
 |succ n ih=>rw[sm,sm,ih (fun i a=>h i o),h n o]
def Iw{n:J}{f:J->Y}(h:∀i,i<n->f i=0):sm n f=0:=by
 induction n with
 |zero=>rfl
 |succ n ih=>rw[sm,ih (fun i a=>h i o),h n o];exact aR 0
def Uw(n:J)(f g:J->Y):sm n (fun i=>f i+g i)=sm n f+sm n g:=by
 induction n with
 |zero=>simp only[sm];exact(aR 0).symm
 |succ n ih=>simp only[sm];rw[ih];grind
def Hu(n:J)(a:Y)(f:J->Y):sm n (fun i=>a*f i)=a*sm n f:=by
 induction n with
 |zero=>simp only[sm];grind
 |succ n ih=>simp only[sm];rw[ih];grind
def A39(n:J)(f:J->Y):sm n (fun i=>- f i)= - sm n f:=by
 induction n with
 |zero=>simp only[sm];grind
 |succ n ih=>simp only[sm];rw[ih];grind
def A0o(n m:J)(f:J->J->Y):sm n (fun i=>sm m (f i))=sm m (fun j=>sm n (fun i=>f i j)):=by
 induction n with
 |zero=>rw[sm];exact(Iw fun _ _=>rfl).symm
 |succ n ih=>simp only[sm];rw[ih,<- Uw]
def Zb{n k:J}(hk:k<n){f:J->Y}(h:∀i,i<n->i≠k->f i=0):sm n f=f k:=by
 induction n with
 |zero=>omega
 |succ n ih=>
  rw[sm];by_cases e:k=n;·subst e;rw[Iw fun i b=>h i o o];exact Rat.zero_add _
  ·rw[ih o fun i b a=>h i o a,h n o o];exact aR _
def rhx(l i:J):J:=if i<l then i else i+1
def C3a(l i:J):rhx l i≠l:=by unfold rhx;split<;>omega
def A83{l i k:J}(hi:i<k):rhx l i<k+1:=by unfold rhx;split<;>omega
def C31{k a:J}(ha:a<=k)(t:J->Y):sm k (fun i=>t (rhx a i))=sm (k+1) (fun b=>if b=a then 0 else t b):=by
 induction k generalizing a with
 |zero=>
  show(0:Y)=0+(if 0=a then 0 else t 0);rw[iP o];exact(aR 0).symm
 |succ k ih=>
  show sm k (fun i=>t (rhx a i))+t (rhx a k)=sm (k+1) (fun b=>if b=a then 0 else t b)+(if k+1=a then 0 else t (k+1));by_cases e:a=k+1
  ·rw[iP e.symm,aR];show sm k (fun i=>t (rhx a i))+t (rhx a k)=sm k (fun b=>if b=a then 0 else t b)+(if k=a then 0 else t k);rw[iN o];congr 1;·exact E8 fun i c=>by rw[rhx,iP o,iN o]
   ·rw[rhx,iP o]
  ·rw[ih o,iN (fun x=>e x.symm)];congr 1;rw[rhx,iN o]
def sg(n:J):Y:=if n%2=0 then 1 else -1
def dt:J->(J->J->Y)->Y
 |0,_=>1
 |k+1,X=>sm (k+1) fun l=>sg (k+l)*X k l*dt k (fun c r=>X c (rhx l r))
def Ak{k:J}:∀{X yq9:J->J->Y},(∀c r,c<k->r<k->X c r=yq9 c r)->dt k X=dt k yq9:=by
 induction k with
 |zero=>intros;rfl
 |succ k ih=>
  intro X yq9 h;rw[dt,dt];refine E8 fun l hl=>?_;rw[h k l o hl,ih fun c r b a=>h c (rhx l r) o (A83 a)]
def rc(X:J->J->Y)(m:J)(y:J->Y):J->J->Y:=fun c r=>if c=m then y r else X c r
def Hc(X:J->J->Y)(m:J)(y:J->Y)(l:J):(fun c r=>rc X m y c (rhx l r))=rc (fun c r=>X c (rhx l r)) m (fun r=>y (rhx l r)):=by funext c r;unfold rc;split<;>rfl
def A50{k:J}:∀(X:J->J->Y) {m:J} (_:m<k) (y z:J->Y),dt k (rc X m fun r=>y r+z r)=dt k (rc X m y)+dt k (rc X m z):=by
 induction k with
 |zero=>intros;omega
 |succ k ih=>
  intro X m a y z;rw[dt,dt,dt,<- Uw];refine E8 fun l hl=>?_;by_cases e:m=k
  ·subst e;have:∀u:J->Y,dt m (fun c r=>rc X m u c (rhx l r))=dt m (fun c r=>X c (rhx l r)):=fun u=>Ak fun c r b _=>by rw[rc,iN o]
   rw[this,this,this];simp only[rc,if_true];grind
  ·rw[Hc,Hc,Hc,ih _ o];simp only[rc,iN (fun x:k=m=>e x.symm)];grind
def B45{k:J}:∀(X:J->J->Y) {m:J} (_:m<k) (a:Y) (y:J->Y),dt k (rc X m fun r=>a*y r)=a*dt k (rc X m y):=by
 induction k with
 |zero=>intros;omega
 |succ k ih=>
  intro X m b a y;rw[dt,dt,<- Hu];refine E8 fun l hl=>?_;by_cases e:m=k
  ·subst e;have:∀u:J->Y,dt m (fun c r=>rc X m u c (rhx l r))=dt m (fun c r=>X c (rhx l r)):=fun u=>Ak fun c r d _=>by rw[rc,iN o]
   rw[this,this];simp only[rc,if_true];grind
  ·rw[Hc,Hc,ih _ o];simp only[rc,iN (fun x:k=m=>e x.symm)];grind
def C1r{k:J}(X:J->J->Y){m:J}(hm:m<k):dt k (rc X m fun _=>0)=0:=by have:=B45 X hm 0 (fun _=>0);rw[aZ]at this;simpa only[aZ]using this
def B96{k:J}(X:J->J->Y){m:J}(hm:m<k)(a:J->Y)(yq9:J->J->Y):∀n,dt k (rc X m fun r=>sm n fun t=>a t*yq9 t r)=sm n fun t=>a t*dt k (rc X m (yq9 t)):=by
 intro n
 induction n with
 |zero=>exact C1r X hm
 |succ n ih=>
  simp only[sm];rw[A50 X hm,ih,B45 X hm]
def A6l(X:J->J->Y)(m:J):rc X m (X m)=X:=by funext c r;unfold rc;split;{rename_i e;rw[e]};·rfl
def A8y{k:J}(X:J->J->Y)(h:∀r,r<k+2->X k r=X (k+1) r):dt (k+2) X=0:=by let mn:J->J->Y:=fun a b=>dt k (fun c r=>X c (if a<b then rhx a (rhx (b-1) r)else rhx b (rhx (a-1) r)));let G:J->J->Y:=fun a b=>if a=b then 0 else if b<a then sg (a+b)*X (k+1) a*X (k+1) b*mn a b else-(sg (a+b)*X (k+1) a*X (k+1) b*mn a b);have m:∀a b,mn a b=mn b a:=by{intro a b;show dt k _=dt k _;refine Ak fun c r _ _=>?_;by_cases d:a<b;{rw[iP d,iN o]};·by_cases n:b<a;{rw[iN d,iP n]};·have:a=b:=o;subst this;rfl};have t:∀a b,G b a= - G a b:=by{intro a b;show(if b=a then 0 else if a<b then _ else _)= - (if a=b then 0 else if b<a then _ else _);by_cases e:a=b;{rw[iP e,iP e.symm];grind};·rw[iN e,iN (fun x=>e x.symm)];have w:=m a b;by_cases d:a<b;{rw[iP d,iN o,cD b a];grind};·rw[iN d,iP o,cD b a];grind};have f:dt (k+2) X=sm (k+2) fun a=>sm (k+2) fun b=>G a b*sg (k+1+k):=by{rw[dt];refine E8 fun a u=>?_;have p:(fun b=>G a b*sg (k+1+k))=(fun b=>if b=a then 0 else(fun b=>G a b*sg (k+1+k)) b):=by{funext b;by_cases e:b=a;{subst e;rw[iP rfl];show(if b=b then 0 else _)*_=_;rw[iP rfl];grind};·rw[iN e]};rw[p,<- C31 o (fun b=>G a b*sg (k+1+k)),dt,<- Hu];refine E8 fun i s=>?_;have l:X k (rhx a i)=X (k+1) (rhx a i):=h _ (A83 s);have j:dt k (fun c r=>X c (rhx a (rhx i r)))=mn a (rhx a i):=by{show _=dt k _;refine Ak fun c r _ _=>?_;by_cases d:i<a;{have g:rhx a i=i:=by{rw[rhx,iP d]};rw[g,iN o];congr 1;simp only[rhx];(repeat' split);all_goals omega};·have g:rhx a i=i+1:=by{rw[rhx,iN d]};rw[g,iP o,aV]};rw[l,j];show _=(if a=rhx a i then 0 else if rhx a i<a then _ else _)*_;rw[iN (fun e=>C3a a i e.symm)];have hs:∀x y:J,x%2=y%2->sg x=sg y:=fun x y e=>by{unfold sg;rw[e]};by_cases d:i<a;{have g:rhx a i=i:=by{rw[rhx,iP d]};rw[g,iP d];have q:sg (k+1+a)*sg (k+i)=sg (a+i)*sg (k+1+k):=by{unfold sg;(repeat' split);all_goals first|omega|grind};grind};·have g:rhx a i=i+1:=by{rw[rhx,iN d]};rw[g,iN o];have q:sg (k+1+a)*sg (k+i)= - sg (a+(i+1))*sg (k+1+k):=by{unfold sg;(repeat' split);all_goals first|omega|grind};grind};have n:dt (k+2) X= - dt (k+2) X:=by{have:dt (k+2) X=sm (k+2) fun a=>sm (k+2) fun b=>G b a*sg (k+1+k):=by{rw[f];exact A0o _ _ _};refine this.trans ?_;rw[f,<- A39];refine E8 fun a _=>?_;rw[<- A39];exact E8 fun b _=>by rw[t];grind};grind
def C1t:∀{k:J} (X:J->J->Y) {p q:J} (_:p<q) (_:q<k) (_:∀r,r<k->X p r=X q r),dt k X=0:=by
 intro k
 induction k with
 |zero=>intros;omega
 |succ k ih=>
  intro X p q g C h;by_cases e:q=k
  ·subst e;by_cases B:p+1=q
   ·subst B;exact A8y X h
   ·
    obtain⟨k',rfl⟩:∃k',q=k'+1:=⟨q-1,o⟩;have m:p<k':=o
    have swap:∀(a:J->J->Y),dt (k'+1) (rc (rc a p (a k')) k' (a p))= - dt (k'+1) a:=by
     intro a
     have j:∀y:J->Y,dt (k'+1) (rc (rc a p y) k' y)=0:=fun y=>ih _ m o fun r _=>by
      unfold rc;rw[iN o,iP rfl,iP rfl]
     have comm:∀y z:J->Y,rc (rc a p y) k' z=rc (rc a k' z) p y:=by
      intro y z;funext c r;unfold rc;by_cases d:c=k'
      ·by_cases b:c=p;·omega
       ·rw[iP d,iN b,iP d]
      ·by_cases b:c=p;·rw[iN d,iP b,iP b]
       ·rw[iN d,iN b,iN b,iN d]
     have f:=j (fun r=>a p r+a k' r);rw[A50 _ o]at f;rw[comm _ (a p),comm _ (a k'),A50 _ o,A50 _ o]at f;rw[<- comm,<- comm,<- comm,<- comm]at f;rw[j (a p),j (a k')]at f;have t:rc (rc a p (a p)) k' (a k')=a:=by rw[A6l,A6l]
     rw[t]at f;grind
    have A:dt (k'+1+1) X= - dt (k'+1+1) (rc (rc X p (X k')) k' (X p)):=by
     rw[dt,dt,<- A39];refine E8 fun l _=>?_;have u:rc (rc X p (X k')) k' (X p) (k'+1) l=X (k'+1) l:=by unfold rc;rw[iN o,iN o]
     have n:(fun c r=>rc (rc X p (X k')) k' (X p) c (rhx l r))=rc (rc (fun c r=>X c (rhx l r)) p (fun r=>X k' (rhx l r))) k' (fun r=>X p (rhx l r)):=by
      rw[Hc,Hc]
     have:=swap (fun c r=>X c (rhx l r));rw[u,n,this];grind
    rw[A,A8y _ fun r i=>?_];·grind
    ·have s:rc (rc X p (X k')) k' (X p) k' r=X p r:=by unfold rc;rw[iP rfl]
     have w:rc (rc X p (X k')) k' (X p) (k'+1) r=X (k'+1) r:=by unfold rc;rw[iN o,iN o]
     rw[s,w];exact h r i
  ·rw[dt];refine Iw fun l _=>?_;rw[ih _ g o fun r i=>h (rhx l r) (A83 i)];grind
def C1s{k:J}(X:J->J->Y)(h:∀r,r<k->X k r=0):dt (k+1) X=X k k*dt k X:=by rw[dt,Zb (k:=k) o fun i d a=>by rw[h i o];grind];have:dt k (fun c r=>X c (rhx k r))=dt k X:=Ak fun c r _ b=>by{rw[rhx,iP b]};have hs:sg (k+k)=1:=by{unfold sg;rw[iP o]};rw[this,hs,Rat.one_mul]
def Wh(q:Y):Prop:=∃z:Z,q=(z:Y)
def Wh.add{p q:Y}(hp:Wh p)(hq:Wh q):Wh (p+q):=by obtain⟨a,rfl⟩:=hp;obtain⟨b,rfl⟩:=hq;exact⟨a+b,by rw[bN]⟩
def Wh.mul{p q:Y}(hp:Wh p)(hq:Wh q):Wh (p*q):=by obtain⟨a,rfl⟩:=hp;obtain⟨b,rfl⟩:=hq;exact⟨a*b,by rw[aC]⟩
def Wh.sg(n:J):Wh (sg n):=by unfold Go.Proofs.YteppbhimdjmabaaGreatDoor.sg;split;{exact⟨1,rfl⟩};·exact⟨-1,by decide +kernel⟩
def Wh.sm{n:J}{f:J->Y}(h:∀i,i<n->Wh (f i)):Wh (sm n f):=by
 induction n with
 |zero=>exact⟨0,rfl⟩
 |succ n ih=>exact(ih fun i a=>h i o).add (h n o)
def C5f{k:J}:∀{X:J->J->Y},(∀c r,c<k->r<k->Wh (X c r))->Wh (dt k X):=by
 induction k with
 |zero=>intro X _;exact⟨1,rfl⟩
 |succ k ih=>
  intro X h;rw[dt];refine Wh.sm fun l hl=>?_;exact((Wh.sg _).mul (h k l o hl)).mul (ih fun c r b a=>h c _ o (A83 a))
structure Elim (n w:J) (B R:J->J->Y) (cs:J->J) (k:J):Prop where
 kn:k<=n
 cw:∀ m,m<k->cs m<w
 piv:∀ l m,l<k->m<k->R l (cs m)=if l=m then 1 else 0
 low:∀ i m,i<n->k<=i->m<k->R i (cs m)=0
 top:∀ l j,l<k->j<w->B l j=sm k fun m=>B l (cs m)*R m j
 bot:∀ i j,i<n->k<=i->j<w->B i j=R i j+sm k fun m=>B i (cs m)*R m j
def dp(B:J->J->Y)(cs:J->J)(k:J):Y:=dt k fun c r=>B r (cs c)
section
variable {n w:J} {B R:J->J->Y} {cs:J->J} {k:J}
def Elim.below(E:Elim n w B R cs k){i j:J}(hi:i<n)(hk:k<=i)(hj:j<w):dp B cs k*R i j=dt (k+1) fun c r=>B (if r<k then r else i) (if c<k then cs c else j):=by have d:(fun c r=>B (if r<k then r else i) (if c<k then cs c else j))=rc (fun c r=>B (if r<k then r else i) (cs c)) k (fun r=>B (if r<k then r else i) j)\/True:=.inr trivial;clear d;let X:J->J->Y:=fun c r=>B (if r<k then r else i) (cs c);have e:dt (k+1) (fun c r=>B (if r<k then r else i) (if c<k then cs c else j))=dt (k+1) (rc X k fun r=>(sm k fun t=>R t j*X t r)+(if r<k then 0 else R i j)):=by{refine Ak fun c r g b=>?_;unfold rc;by_cases h:c=k;{subst h;rw[iN (cO c),iP rfl];show _=(sm c fun t=>R t j*X t r)+(if r<c then 0 else R i j);by_cases a:r<c;{rw[iP a,iP a,aR,E.top r j a hj];refine E8 fun m _=>?_;show _=_*B (if r<c then r else i) (cs m);rw[iP a,cC]};·rw[iN a,iN a,E.bot i j hi hk hj,Rat.add_comm];congr 1;refine E8 fun m _=>?_;show _=_*B (if r<c then r else i) (cs m);rw[iN a,cC]};·rw[iN h,iP (show c<k from o)]};rw[e,A50 _ o,B96 X o (fun t=>R t j) X];rw[Iw fun t f=>by rw[C1t (rc X k (X t)) (p:=t) (q:=k) f o fun r _=>by unfold rc;rw[iN o,iP rfl]];exact bL _];rw[C1s _ fun r b=>by unfold rc;rw[iP rfl];show(if r<k then 0 else R i j)=0;rw[iP b]];have l:dt k (rc X k fun r=>if r<k then 0 else R i j)=dp B cs k:=by{refine Ak fun c r g b=>?_;unfold rc;rw[iN o];show B (if r<k then r else i) (cs c)=_;rw[iP b]};rw[l];unfold rc;rw[iP rfl];show _=0+(if k<k then 0 else R i j)*_;rw[iN (cO k)];grind
def Elim.above(E:Elim n w B R cs k){i j:J}(hi:i<k)(hj:j<w):dp B cs k*R i j=dt k (rc (fun c r=>B r (cs c)) i fun r=>B r j):=by let X:J->J->Y:=fun c r=>B r (cs c);have d:dt k (rc X i fun r=>B r j)=dt k (rc X i fun r=>sm k fun t=>R t j*X t r):=by{refine Ak fun c r f b=>?_;unfold rc;split;{show B r j=sm k fun t=>R t j*X t r;rw[E.top r j b hj];exact E8 fun m _=>cC _ _};·rfl};show _=dt k (rc X i fun r=>B r j);rw[d,B96 X hi (fun t=>R t j) X,Zb (k:=i) hi fun t e a=>?_];{rw[A6l,cC];rfl};·rcases Nat.lt_or_ge t i with h|h;{rw[C1t (rc X i (X t)) (p:=t) (q:=i) h hi fun r _=>by unfold rc;rw[iN o,iP rfl]];exact bL _};·rw[C1t (rc X i (X t)) (p:=i) (q:=t) o e fun r _=>by unfold rc;rw[iP rfl,iN o]];exact bL _
def Elim.whole(E:Elim n w B R cs k)(hB:∀i j,i<n->j<w->Wh (B i j)){i j:J}(hi:i<n)(hj:j<w):Wh (dp B cs k*R i j):=by by_cases h:i<k;{rw[E.above h hj];refine C5f fun c r a b=>?_;have:=E.kn;unfold rc;split;{exact hB r j o hj};·exact hB r _ o (E.cw c a)};·rw[E.below hi o hj];refine C5f fun c r a b=>?_;refine hB _ _ ?_ ?_;{split<;>omega};·split;{exact E.cw c (by assumption)};·exact hj
def Elim.next(E:Elim n w B R cs k){j:J}(hk:k<n)(hj:j<w)(hc:cs k=j):dp B cs (k+1)=dp B cs k*R k j:=by rw[E.below hk (aJ _) hj];refine Ak fun c r b e=>?_;have d:(if r<k then r else k)=r:=by{split<;>omega};have a:(if c<k then cs c else j)=cs c:=by{split;{rfl};·have:c=k:=o;rw[this,hc]};rw[d,a]
def Cs(R:J->J->Y)(k j:J):J->J->Y:=fun a b=>if a=k then R k b/R k j else R a b-R a j*(R k b/R k j)
def Elim.step(E:Elim n w B R cs k){j:J}(hk:k<n)(hj:j<w)(hc:cs k=j)(hne:R k j≠0):Elim n w B (Cs R k j) cs (k+1):=by have d:∀m,m<k->R k (cs m)=0:=fun m p=>E.low k m hk (aJ _) p;have f:R k j/R k j=1:=gz0;refine⟨o,fun m p=>?_,fun l m hl p=>?_,fun i m q u p=>?_,fun l b hl r=>?_,fun i b q u r=>?_⟩;{by_cases e:m=k;{rw[e,hc];exact hj};·exact E.cw m o};{unfold Cs;by_cases s:m=k;{subst s;rw[hc];by_cases c:l=m;{rw[iP c,iP c];exact f};·rw[iN c,iN c,f];grind};·have a:m<k:=o;rw[d m a];by_cases c:l=k;{subst c;rw[iP rfl,iN o];grind};·rw[iN c,E.piv l m o a];grind};{unfold Cs;rw[iN o];by_cases s:m=k;{subst s;rw[hc,f];grind};·have a:m<k:=o;rw[d m a,E.low i m q o a];grind};{rw[sm];have t:(Cs R k j) k b=R k b/R k j:=by{unfold Cs;rw[iP rfl]};have y:sm k (fun m=>B l (cs m)*Cs R k j m b)=sm k (fun m=>B l (cs m)*R m b)-sm k (fun m=>B l (cs m)*R m j)*(R k b/R k j):=by{have:(fun m=>B l (cs m)*Cs R k j m b)=fun m=>if m=k then B l (cs k)*(R k b/R k j)else B l (cs m)*R m b+(-(R k b/R k j))*(B l (cs m)*R m j):=by{funext m;unfold Cs;by_cases e:m=k;{rw[iP e,iP e,e]};·rw[iN e,iN e];grind};rw[this,E8 (g:=fun m=>B l (cs m)*R m b+(-(R k b/R k j))*(B l (cs m)*R m j)) fun m p=>by rw[iN o]];rw[Uw,Hu];grind};rw[t,y,hc];by_cases c:l=k;{subst c;have t1:=E.bot l b hk (aJ _) r;have z:=E.bot l j hk (aJ _) hj;grind};·have t1:=E.top l b o r;have z:=E.top l j o hj;grind};·rw[sm];have t:(Cs R k j) k b=R k b/R k j:=by{unfold Cs;rw[iP rfl]};have y:sm k (fun m=>B i (cs m)*Cs R k j m b)=sm k (fun m=>B i (cs m)*R m b)-sm k (fun m=>B i (cs m)*R m j)*(R k b/R k j):=by{have:(fun m=>B i (cs m)*Cs R k j m b)=fun m=>if m=k then B i (cs k)*(R k b/R k j)else B i (cs m)*R m b+(-(R k b/R k j))*(B i (cs m)*R m j):=by{funext m;unfold Cs;by_cases e:m=k;{rw[iP e,iP e,e]};·rw[iN e,iN e];grind};rw[this,E8 (g:=fun m=>B i (cs m)*R m b+(-(R k b/R k j))*(B i (cs m)*R m j)) fun m p=>by rw[iN o]];rw[Uw,Hu];grind};have A:Cs R k j i b=R i b-R i j*(R k b/R k j):=by{unfold Cs;rw[iN o]};have t1:=E.bot i b q o r;have z:=E.bot i j q o hj;rw[t,y,A,hc];grind
def xch(k l:J)(i:J):J:=if i=k then l else if i=l then k else i
def Elim.swap(E:Elim n w B R cs k){l:J}(hk:k<=l)(hl:l<n):Elim n w (fun i=>B (xch k l i)) (fun i=>R (xch k l i)) cs k:=by have f:∀i,i<k->xch k l i=i:=fun i e=>by{unfold xch;rw[iN o,iN o]};have p:∀i,i<n->k<=i->xch k l i<n/\k<=xch k l i:=fun i r q=>by{unfold xch;split<;>(try split)<;>omega};refine⟨E.kn,E.cw,fun a m d b=>?_,fun i m e c b=>?_,fun a j d g=>?_,fun i j e c g=>?_⟩;{show R (xch k l a) _=_;rw[f a d];exact E.piv a m d b};{have:=p i e c;exact E.low _ m this.1 this.2 b};{show B (xch k l a) j=sm k fun m=>B (xch k l a) (cs m)*R (xch k l m) j;rw[f a d,E.top a j d g];exact E8 fun m b=>by rw[f m b]};·have:=p i e c;show B (xch k l i) j=R (xch k l i) j+sm k fun m=>B (xch k l i) (cs m)*R (xch k l m) j;rw[E.bot _ j this.1 this.2 g];congr 1;exact E8 fun m b=>by rw[f m b]
def C1u(B:J->J->Y)(cs:J->J){k l:J}(hk:k<=l):dp (fun i=>B (xch k l i)) cs k=dp B cs k:=by refine Ak fun c r _ a=>?_;show B (xch k l r) _=_;unfold xch;rw[iN o,iN o]
def Elim.start:Elim n w B B cs 0:=by refine⟨Nat.zero_le _,fun m a=>o,fun l m hl=>o,fun i m _ _ a=>o,fun l j hl=>o,fun i j _ _ _=>by rw[sm,aR]⟩
def Elim.cs_congr{cs':J->J}(E:Elim n w B R cs k)(h:∀m,m<k->cs m=cs' m):Elim n w B R cs' k:=by refine⟨E.kn,fun m a=>by rw[<- h m a];exact E.cw m a,fun l m hl a=>by rw[<- h m a];exact E.piv l m hl a,fun i m b d a=>by rw[<- h m a];exact E.low i m b d a,fun l j hl c=>?_,fun i j b d c=>?_⟩;{rw[E.top l j hl c];exact E8 fun m a=>by rw[h m a]};·rw[E.bot i j b d c];congr 1;exact E8 fun m a=>by rw[h m a]
def B7m{cs':J->J}(h:∀m,m<k->cs m=cs' m):dp B cs k=dp B cs' k:=Ak fun c r a _=>by rw[h c a]
end
end Go.Proofs.YteppbhimdjmabaaGreatDoor
namespace Go.Proofs.YteppbhimdjmabaaGreatDoor
set_option maxRecDepth 20000
def fnd(p:J->Bool):J->J->J
 |0,i=>i
 |f+1,i=>bif p i then i else fnd p f (i+1)
def A8q(p:J->Bool):∀f i,i<=fnd p f i/\fnd p f i<=i+f:=by
 intro f
 induction f with
 |zero=>intro i;simp[fnd]
 |succ f ih=>
  intro i;unfold fnd;grind
def A1t(p:J->Bool):∀f i,fnd p f i<i+f->p (fnd p f i)=true:=by
 intro f
 induction f with
 |zero=>intro i h;simp[fnd]at h
 |succ f ih=>
  intro i h;unfold fnd at h ⊢;grind
def Ub(p:J->Bool):∀f i j,i<=j->j<fnd p f i->p j=false:=by
 intro f
 induction f with
 |zero=>intro i j b a;simp[fnd]at a;omega
 |succ f ih=>
  intro i j b a;unfold fnd at a;grind
def A4r{p q:J->Bool}:∀f i,(∀j,i<=j->j<i+f->p j=q j)->fnd p f i=fnd q f i:=by
 intro f
 induction f with
 |zero=>intros;rfl
 |succ f ih=>
  intro i h;unfold fnd;grind
def A4q(p:J->Bool){f i k:J}(h1:i<=k)(h2:k<=i+f)(h3:∀j,i<=j->j<k->p j=false)(h4:k<i+f->p k=true):fnd p f i=k:=by have a:=A8q p f i;rcases Nat.lt_trichotomy (fnd p f i) k with h|h|h;{have:=A1t p f i o;grind};{exact h};·have:=Ub p f i k h1 h;grind
structure ES where
 R:J->J->Y
 cs:dF J
 det:Y
def elimE(R:J->J->Y)(k j:J):J->J->Y:=fun a b=>if a=k then R k b/R k j else if R a j=0\/b<j then R a b else R a b-R a j*(R k b/R k j)
def No(n c:J)(s:ES):J:=fnd (fun i=>decide (s.R i c≠0)) (n-s.cs.length) s.cs.length
def Iv(n c:J)(s:ES):ES:=
 if s.cs.length<n then
  if No n c s<n then
   { R:=elimE (fun i=>s.R (xch s.cs.length (No n c s) i)) s.cs.length c
     cs:=s.cs++[c]
     det:=(if No n c s=s.cs.length then s.det else-s.det)*s.R (No n c s) c }
  else { s with det:=0 }
 else s
def Xu(n:J)(s:ES):J->ES
 |0=>s
 |c+1=>Iv n c (Xu n s c)
structure PS where
 M:J->J->Z
 S:J->Y
 cs:dF J
 last:Z
 sgn:Z
def clr(M:J->J->Z)(r c:J)(d:Z):J->J->Z:=fun a b=>if a=r then M r b else(M r c*M a b-M a c*M r b).tdiv d
def Vc(n c:J)(s:PS):J:=fnd (fun i=>decide (s.M i c≠0)) (n-s.cs.length) s.cs.length
def Ey(n c:J)(s:PS):PS:=
 if Vc n c s<n then
  { M:=clr (fun i=>s.M (xch s.cs.length (Vc n c s) i)) s.cs.length c s.last
    S:=fun i=>s.S (xch s.cs.length (Vc n c s) i)
    cs:=s.cs++[c]
    last:=s.M (Vc n c s) c
    sgn:=if Vc n c s=s.cs.length then s.sgn else-s.sgn }
 else s
def Im(n:J)(s:PS):J->PS
 |0=>s
 |c+1=>Ey n c (Im n s c)
def pr:J->(J->Y)->Y
 |0,_=>1
 |n+1,f=>pr n f*f n
def B6w{n:J}{f g:J->Y}(h:∀i,i<n->f i=g i):pr n f=pr n g:=by
 induction n with
 |zero=>rfl
 |succ n ih=>rw[pr,pr,ih (fun i a=>h i o),h n o]
def Nr(k l:J):xch k l k=l:=by unfold xch;grind
def Ll{k l i n:J}(hk:k<n)(hl:l<n)(hi:i<n):xch k l i<n:=by unfold xch;grind
def B1f{k l i:J}(hkl:k<=l)(hi:k<=i):k<=xch k l i:=by unfold xch;grind
def A2n{k l i:J}(hkl:k<=l)(hi:i<k):xch k l i=i:=by unfold xch;grind
def A63{x d z:Z}(hd:d≠0)(h:x=d*z):x.tdiv d=z:=by simp_all
structure ERel (n w c:J) (A:J->J->Y) (s:ES) (t:PS):Prop where
 cs:s.cs=t.cs
 elim:∃ B,(∀ i j,i<n->j<w->Wh (B i j))/\Elim n w B (fun i j=>if i<s.cs.length then s.R i j else t.S i*s.R i j) (fun m=>s.cs.getD m 0) s.cs.length/\(t.last:Y)=dp B (fun m=>s.cs.getD m 0) s.cs.length
 last:t.last≠0
 val:∀ i j,i<n->j<w->(t.M i j:Y)=t.last*(if i<s.cs.length then s.R i j else t.S i*s.R i j)
 scale:∀ i,i<n->t.S i≠0
 zero:∀ i j,i<n->s.cs.length<=i->j<c->s.R i j=0
 asc:s.cs.length<=c
 det:s.cs.length=c->s.det*pr s.cs.length t.S=t.sgn*t.last
 miss:s.cs.length<c->s.cs.length<n->s.det=0
 sgn:t.sgn=1\/t.sgn= -1
def T3{z:Z}(h:z≠0):(z:Y)≠0:=by simp_all
def ERel.start{n w:J}{A:J->J->Y}{M:J->J->Z}{S:J->Y}(h:∀i j,i<n->j<w->(M i j:Y)=S i*A i j)(hS:∀i,i<n->S i≠0):ERel n w 0 A ⟨A,[],1⟩ ⟨M,S,[],1,1⟩:=by refine⟨rfl,⟨fun i j=>S i*A i j,fun i j b a=>⟨M i j,(h i j b a).symm⟩,?_,rfl⟩,(by decide:(1:Z)≠0),fun i j b a=>?_,hS,fun i j _ _ a=>o,aJ _,fun _=>?_,fun h=>by simp at h,.inl rfl⟩;{show Elim n w _ (fun i j=>if i<([]:dF J).length then A i j else S i*A i j) _ 0;exact Elim.start};{grind};rfl
def Wn(l:dF J)(c:J):∀m,m<l.length->(l++[c]).getD m 0=l.getD m 0:=by grind
def A4m(l:dF J)(c:J):(l++[c]).getD l.length 0=c:=by grind
def ERel.row{n w c:J}{A:J->J->Y}{s:ES}{t:PS}(h:ERel n w c A s t)(hc:c<w):Vc n c t=No n c s:=by unfold Vc No;rw[<- h.cs];refine A4r _ _ fun j f b=>?_;have a:=h.val j c o hc;have g:=T3 h.last;have d:=h.scale j o;refine decide_eq_decide.2 (not_congr ⟨fun e=>?_,fun e=>?_⟩);{rw[e]at a;grind};simp_all
def ERel.step{n w c:J}{A:J->J->Y}{s:ES}{t:PS}(h:ERel n w c A s t)(hc:c<w):ERel n w (c+1) A (Iv n c s) (Ey n c t):=by have T:=h.row hc;have a:=A8q (fun i=>decide (s.R i c≠0)) (n-s.cs.length) s.cs.length;have H:=Ub (fun i=>decide (s.R i c≠0)) (n-s.cs.length) s.cs.length;have O:=A1t (fun i=>decide (s.R i c≠0)) (n-s.cs.length) s.cs.length;have hR:fnd (fun i=>decide (s.R i c≠0)) (n-s.cs.length) s.cs.length=No n c s:=rfl;rw[hR]at a H O;obtain⟨B,hB,E,hD⟩:=h.elim;unfold Iv Ey;rw[T];by_cases u:No n c s<n;{have f:s.cs.length<n:=o;rw[iP f,iP u,iP u,<- h.cs];generalize hr:No n c s=r at *;generalize hl:s.cs.length=k at *;have E1:=E.swap (l:=r) a.1 u;have F:∀m,m<k->s.cs.getD m 0=(s.cs++[c]).getD m 0:=fun m hm=>(Wn s.cs c m o).symm;have E2:=E1.cs_congr F;have y:(s.cs++[c]).getD k 0=c:=gz0;have p:(s.cs++[c]).length=k+1:=gz0;have xk:xch k r k=r:=Nr k r;have aj:=h.scale r u;have ac:t.S r*s.R r c≠0:=by{grind};have E3:=E2.step (j:=c) f hc y gz0;have ag:=E2.next (j:=c) f hc y;have ai:dp (fun i=>B (xch k r i)) (fun m=>(s.cs++[c]).getD m 0) k=(t.last:Y):=by{rw[hD,<- B7m F,C1u B _ a.1]};have G:(t.M r c:Y)=t.last*(t.S r*s.R r c):=by{have:=h.val r c u hc;grind};have Q:dp (fun i=>B (xch k r i)) (fun m=>(s.cs++[c]).getD m 0) (k+1)=(t.M r c:Y):=by{grind};have ad:=T3 h.last;have N:t.M r c≠0:=by{intro e;rw[e]at G;grind};have hz:∀b,b<c->s.R r b=0:=fun b hb=>h.zero r b u o hb;have hQ:∀i j,(if i<k+1 then elimE (fun i=>s.R (xch k r i)) k c i j else t.S (xch k r i)*elimE (fun i=>s.R (xch k r i)) k c i j)=Cs (fun i j=>if xch k r i<k then s.R (xch k r i) j else t.S (xch k r i)*s.R (xch k r i) j) k c i j:=by{intro i j;unfold elimE Cs;by_cases e:i=k;{grind};·simp only[iN e,xk,iN (show ¬r<k from o)];by_cases d:i<k;{rw[iP (show i<k+1 from o),A2n a.1 d,iP d,iP d];grind};·have W:¬xch k r i<k:=by{have:=B1f (i:=i) a.1 o;omega};grind};have aa:(fun i j=>if i<k+1 then elimE (fun i=>s.R (xch k r i)) k c i j else t.S (xch k r i)*elimE (fun i=>s.R (xch k r i)) k c i j)=Cs (fun i j=>if xch k r i<k then s.R (xch k r i) j else t.S (xch k r i)*s.R (xch k r i) j) k c:=by{grind};have q:∀i,i<n->xch k r i<n:=fun i d=>Ll f u d;refine⟨rfl,⟨fun i=>B (xch k r i),fun i j d D=>hB _ j (q i d) D,?_,?_⟩,N,fun i j d D=>?_,fun i d=>h.scale _ (q i d),fun i j d L D=>?_,?_,fun X=>?_,fun X _=>?_,?_⟩;{show Elim n w _ (fun i j=>if i<(s.cs++[c]).length then elimE (fun i=>s.R (xch k r i)) k c i j else t.S (xch k r i)*elimE (fun i=>s.R (xch k r i)) k c i j) _ (s.cs++[c]).length;rw[p,aa];exact E3};{grind};{show(clr (fun i=>t.M (xch k r i)) k c t.last i j:Y)=(t.M r c:Y)*(if i<(s.cs++[c]).length then elimE (fun i=>s.R (xch k r i)) k c i j else t.S (xch k r i)*elimE (fun i=>s.R (xch k r i)) k c i j);rw[p,hQ i j];unfold clr;by_cases e:i=k;{subst e;rw[iP rfl];show(t.M (xch i r i) j:Y)=_;unfold Cs;have:=h.val r j u D;grind};·rw[iN e];show(((t.M (xch k r k) c*t.M (xch k r i) j-t.M (xch k r i) c*t.M (xch k r k) j).tdiv t.last:Z):Y)=_;rw[xk];have hw:=E3.whole (fun i j d D=>hB _ j (q i d) D) d D;rw[Q]at hw;obtain⟨z,V⟩:=hw;have v1:=h.val (xch k r i) j (q i d) D;have v2:=h.val (xch k r i) c (q i d) hc;have v3:=h.val r j u D;have W:t.M r c*t.M (xch k r i) j-t.M (xch k r i) c*t.M r j=t.last*z:=by{have:((t.M r c*t.M (xch k r i) j-t.M (xch k r i) c*t.M r j:Z):Y)=((t.last*z:Z):Y):=by{rw[Rat.intCast_sub,aC,aC,aC,<- V,v1,v2,v3,G];unfold Cs;grind};exact_mod_cast this};rw[A63 h.last W,<- V]};{show elimE (fun i=>s.R (xch k r i)) k c i j=0;have ae:k+1<=i:=by{grind};have af:=B1f (i:=i) a.1 (show k<=i from o);unfold elimE;rw[iN o];by_cases e:j=c;{grind};·rw[iP (.inr o)];exact h.zero _ j (q i d) o o};{show(s.cs++[c]).length<=c+1;have:=h.asc;omega};{show(if r=k then s.det else -s.det)*s.R r c*pr (s.cs++[c]).length (fun i=>t.S (xch k r i))=((if r=k then t.sgn else -t.sgn:Z):Y)*(t.M r c:Y);have ah:k=c:=by{grind};have hd:=h.det o;rw[p,pr,xk,B6w (g:=t.S) fun i d=>by rw[A2n a.1 d],G];by_cases e:r=k;{grind};·rw[iN e,iN e,bM];grind};{show(if r=k then s.det else -s.det)*s.R r c=0;have:(s.cs++[c]).length<c+1:=X;have hd:=h.miss o o;grind};·show(if r=k then t.sgn else -t.sgn)=1\/(if r=k then t.sgn else -t.sgn)= -1;have:=h.sgn;omega};·rw[iN u,iN u];have C:∀i j,i<n->s.cs.length<=i->j<c+1->s.R i j=0:=by{intro i j d L D;by_cases e:j=c;{grind};·exact h.zero i j d L o};by_cases f:s.cs.length<n;{rw[iP f];exact⟨h.cs,⟨B,hB,E,hD⟩,h.last,h.val,h.scale,C,Nat.le_succ_of_le h.asc,fun X=>by have:=h.asc;grind,fun _ _=>rfl,h.sgn⟩};·rw[iN f];exact⟨h.cs,⟨B,hB,E,hD⟩,h.last,h.val,h.scale,C,Nat.le_succ_of_le h.asc,fun X=>by have:=h.asc;omega,fun _ W=>absurd W f,h.sgn⟩
def ERel.run{n w:J}{A:J->J->Y}{s:ES}{t:PS}(h:ERel n w 0 A s t):∀c,c<=w->ERel n w c A (Xu n s c) (Im n t c):=by
 intro c
 induction c with
 |zero=>exact fun _=>h
 |succ c ih=>exact fun a=>(ih o).step o
end Go.Proofs.YteppbhimdjmabaaGreatDoor
namespace Go.Proofs.YteppbhimdjmabaaGreatDoor
set_option maxRecDepth 20000
def Sz.elimE{n w k j m:J}{R:J->J->Y}(hR:∀a b,a<n->b<w->Sz m (R a b))(hk:k<n)(hj:j<w)(hm:1<=m){a b:J}(ha:a<n)(hb:b<w):Sz (7*m) (elimE R k j a b):=by have c:Sz (m+m) (R k b/R k j):=(hR k b hk hb).div (hR k j hk hj) hm;unfold Go.Proofs.YteppbhimdjmabaaGreatDoor.elimE;split;{exact c.mono o};·split;{exact(hR a b ha hb).mono o};·exact((hR a b ha hb).sub ((hR a j ha hj).mul c)).mono o
structure SzE (n w m:J) (s:ES):Prop where
 R:∀ a b,a<n->b<w->Sz (7^s.cs.length*m) (s.R a b)
 det:Sz (7^s.cs.length*m) s.det
 len:s.cs.length<=n
def A8b(k m:J)(hm:1<=m):1<=7^k*m:=by have:0<7^k:=Nat.pow_pos dc;exact Nat.mul_pos this hm
def SzE.step{n w m c:J}{s:ES}(h:SzE n w m s)(hm:1<=m)(hc:c<w):SzE n w m (Iv n c s):=by have j:=A8b s.cs.length m hm;unfold Iv;by_cases f:s.cs.length<n;{rw[iP f];by_cases d:No n c s<n;{rw[iP d];have e:(s.cs++[c]).length=s.cs.length+1:=by{simp};have k:7^(s.cs.length+1)*m=7*(7^s.cs.length*m):=gz0;refine⟨fun a b g i=>?_,?_,?_⟩;{show Sz (7^(s.cs++[c]).length*m) _;rw[e,k];exact Sz.elimE (n:=n) (w:=w) (fun a b g i=>h.R _ b (Ll f d g) i) f hc j g i};{show Sz (7^(s.cs++[c]).length*m) ((if No n c s=s.cs.length then s.det else -s.det)*s.R (No n c s) c);rw[e,k];have:Sz (7^s.cs.length*m) (if No n c s=s.cs.length then s.det else -s.det):=by{split;{exact h.det};·exact h.det.neg};exact(this.mul (h.R _ c d hc)).mono o};grind};·rw[iN d];exact⟨h.R,Sz.zero j,h.len⟩};grind
def SzE.run{n w m:J}{s:ES}(h:SzE n w m s)(hm:1<=m):∀c,c<=w->SzE n w m (Xu n s c):=by
 intro c
 induction c with
 |zero=>exact fun _=>h
 |succ c ih=>exact fun a=>(ih o).step hm o
def B83{m:J}{x d:Z}(h:ZB m x):ZB m (x.tdiv d):=by refine h.le ?_;rw[Int.natAbs_tdiv];exact cM _ _
def ZB.clr{n w k j m:J}{M:J->J->Z}{d:Z}(hM:∀a b,a<n->b<w->ZB m (M a b))(hk:k<n)(hj:j<w){a b:J}(ha:a<n)(hb:b<w):ZB (2*m+1) (clr M k j d a b):=by unfold Go.Proofs.YteppbhimdjmabaaGreatDoor.clr;split;{exact(hM k b hk hb).mono o};·refine B83 ?_;have c:=(hM k j hk hj).mul (hM a b ha hb);have e:=(hM a j ha hj).mul (hM k b hk hb);exact(c.sub e).mono o
def A6e(n c:J)(s:PS)(h:s.cs.length<=n):s.cs.length<=Vc n c s/\Vc n c s<=n:=by have:=A8q (fun i=>decide (s.M i c≠0)) (n-s.cs.length) s.cs.length;unfold Vc;omega
structure ZbP (n w m l:J) (s:PS):Prop where
 M:∀ a b,a<n->b<w->ZB (3^s.cs.length*m) (s.M a b)
 last:ZB (3^s.cs.length*m) s.last
 S:∀ a,a<n->Sz l (s.S a)
 len:s.cs.length<=n
def A8c(k m:J)(hm:1<=m):1<=3^k*m:=by have:0<3^k:=Nat.pow_pos dc;exact Nat.mul_pos this hm
def ZbP.step{n w m l c:J}{s:PS}(h:ZbP n w m l s)(hm:1<=m)(hc:c<w):ZbP n w m l (Ey n c s):=by have k:=A6e n c s h.len;have p:=A8c s.cs.length m hm;unfold Ey;by_cases f:Vc n c s<n;{rw[iP f];have g:s.cs.length<n:=o;have e:(s.cs++[c]).length=s.cs.length+1:=by{simp};have j:3^(s.cs.length+1)*m=3*(3^s.cs.length*m):=gz0;refine⟨fun a b d i=>?_,?_,fun a d=>h.S _ (Ll g f d),?_⟩;{show ZB (3^(s.cs++[c]).length*m) _;rw[e,j];exact(ZB.clr (n:=n) (w:=w) (fun a b d i=>h.M _ b (Ll g f d) i) g hc d i).mono o};{show ZB (3^(s.cs++[c]).length*m) (s.M (Vc n c s) c);rw[e,j];exact(h.M _ c f hc).mono o};grind};grind
def ZbP.run{n w m l:J}{s:PS}(h:ZbP n w m l s)(hm:1<=m):∀c,c<=w->ZbP n w m l (Im n s c):=by
 intro c
 induction c with
 |zero=>exact fun _=>h
 |succ c ih=>exact fun a=>(ih o).step hm o
structure Asc (l:dF J) (c:J):Prop where
 lt:∀ x∈l,x<c
 asc:l.Pairwise (· < ·)
def Asc.snoc{l:dF J}{c:J}(h:Asc l c):Asc (l++[c]) (c+1):=by refine⟨fun x d=>?_,?_⟩;{rcases List.mem_append.1 d with d|d;{have:=h.lt x d;omega};grind};·rw[List.pairwise_append];refine⟨h.asc,by simp,fun a f b e=>?_⟩;simp at e;subst e;exact h.lt a f
def Asc.mono{l:dF J}{c d:J}(h:Asc l c)(hcd:c<=d):Asc l d:=⟨fun x a=>Nat.lt_of_lt_of_le (h.lt x a) hcd,h.asc⟩
def A0s(n:J)(s:ES)(h:s.cs=[]):∀c,Asc (Xu n s c).cs c:=by
 intro c
 induction c with
 |zero=>show Asc s.cs 0;rw[h];exact⟨by simp,.nil⟩
 |succ c ih=>
  show Asc (Iv n c (Xu n s c)).cs (c+1);unfold Iv;split
  ·split;·exact ih.snoc
   ·exact ih.mono o
  ·exact ih.mono o
def U4(z:Z)(l:dF cN):iAt (I z::l) 0=z:=rfl
def Kl:prog.cellsOf 48=4/\(prog.info? 48).isSome=true:=B1v
def A36:prog.cellsOf 143=4/\(prog.info? 143).isSome=true:=Gy
section
variable {α β:Type} [E:Enc α] {R:aI->α->β->Prop}
def OwnK(R:aI->α->β->Prop)(h h':aI)(b n k:J)(f:J->β):Prop:=∃g o xs,h.le g/\Sep h' g o/\RowX o b xs/\xs.length=n/\Row R g xs k f
def OwnK.own{h h':aI}{b n:J}{f:J->β}(w:OwnK R h h' b n n f):Own R h h' b n f:=⟨w⟩
def OwnK.le{h h':aI}{b n k:J}{f:J->β}(w:OwnK R h h' b n k f):h.le h':=by obtain⟨g,o,xs,l,s,_⟩:=w;exact B6 l s.le
def OwnK.zero{h:aI}{b n:J}{f:J->β}{e:aQ}{z:α}(hb:h b=none):OwnK R h (A59 e h b (bU n z)) b n 0 f:=⟨h,Ag.put b (.cells ((bU n z).flatMap enc).toArray e),bU n z,B8 _,S3 hb,RowX.mk,by simp,Row.nil⟩
def OwnK.store(m:Mon R){P:Program}{t:aQ}(one:P.cellsOf t=E.default.size/\(P.info? t).isSome=true){h h' g g' o:aI}{b n k:J}{f:J->β}{xs:dF α}(lg:h.le g)(lg':g.le g')(s:Sep h' g' o)(rb:RowX o b xs)(hn:xs.length=n)(r:Row R g xs k f)(hk:k<n){v:cN}{y:α}(hv:v.cells=(enc y).toArray)(hy:R g' y (f k)){K:Unit->aI->Prop} (x:∀h2,OwnK R h h2 b n (k+1) f->K () h2):wpH P (aX t (.pointer (some (aE ⟨b,0,none⟩ (k*E.default.size)))) v) K h':=by refine P7 one hv s rb oo ?_;intro h2 d i e c a;exact x h2 ⟨g',d,_,B6 lg lg',c,a,gz0,(r.mono m lg').set oo hy⟩
end
def U1:QV:=⟨false,none,0,0,false,none,0,0⟩
section
variable {h:aI} {K:VP} {A:Option aL} {n c m:J} {ls:J->dF UInt8} {f:J->Y} {a w:QV} {q:Y}
def Z2(gl:Gl h)(r:RowV SSr h A n ls)(hn:n<=1000000)(hl:∀i,i<n->(ls i).length<=140737488351232) (hK1:(∀i,i<n->IsNum (ls i))->∀b h',Own RQr h h' b n (fun i=>rv (ls i))->K (.tuple #[.slice (some ⟨b,0,none⟩) n n,.bool true]) h') (hK0:¬(∀i,i<n->IsNum (ls i))->∀h',h.le h'->K (.tuple #[.slice none 0 0,.bool false]) h'):aN prog 117 #[.slice A n c] h K:=by refine(fnk func117 [(3,[14],[],[I 0])] (own:=[7])) ?_;refine G7 A0k (zx:=U1) rfl oo oo oo oo ?_;intro b N;refine⟨_,_,_,rfl,fun L u=>∃k:J,k<=n/\L=[I k]/\(∀i,i<k->IsNum (ls i))/\OwnK RQr h u b n k (fun i=>rv (ls i)),fun L _=>n-(iAt L 0).toNat,⟨0,oo,rfl,fun i R=>oo,OwnK.zero N⟩,?_⟩;rintro t u ⟨k,T,V,l,g,o,xs,f,s,E,F,D⟩;obtain rfl:t=(k:Z):=gz0;refine B9 (fun M=>?_) (fun G=>?_);{have d:k<n:=oo;obtain⟨a,rfl,S⟩:=(r.mono F1 (B6 f s.le)).sat d;refine⟨a,rfl,oo,oo,_,S,?_⟩;refine s.call (Qw (gl.mono f).tz (hl k d) ?_ ?_);{intro q e w C z H B p;refine⟨_,_,_,_,_,_,_,_,_,rfl,_,rfl,oo,oo,?_⟩;refine OwnK.store H2 A36 (y:=w) f z p E F D d rfl (by show RQ C w (rv (ls k));rw[e,F3];exact H) ?_;intro W Q;rw[wiS k oo];refine⟨⟨k+1,oo,rfl,fun i R=>?_,Q⟩,?_⟩;{by_cases O:i=k;{subst O;exact⟨q,e⟩};grind};·simp only[U4];omega};·intro m w C z _ B p;exact⟨_,_,_,_,_,_,_,_,_,rfl,hK0 (fun j=>m (j k d)) B (B6 f (B6 z p.le))⟩};·have:k=n:=oo;subst this;exact hK1 l b u ⟨g,o,xs,f,s,E,F,D⟩
def U8(gl:Gl h)(r:RowV RQr h A n f)(hn:n<=1000000)(hs:∀i,i<n->Sz m (f i))(hm:m<=40000000) (hK:∀b h',Own SSr h h' b n (fun i=>E7 (f i))->K (.slice (some ⟨b,0,none⟩) n n) h'):aN prog 126 #[.slice A n c] h K:=by refine(fnk func126 [(3,[11],[],[I 0])] (own:=[5])) ?_;refine G7 G2 (zx:=([]:dF UInt8)) rfl oo oo oo oo ?_;intro b E;refine⟨_,_,_,rfl,fun L j=>∃k:J,k<=n/\L=[I k]/\OwnK SSr h j b n k (fun i=>E7 (f i)),fun L _=>n-(iAt L 0).toNat,⟨0,oo,rfl,OwnK.zero E⟩,?_⟩;rintro t j ⟨k,O,Q,g,o,xs,e,s,p,q,l⟩;obtain rfl:t=(k:Z):=gz0;refine B9 (fun D=>?_) (fun u=>?_);{have d:k<n:=oo;obtain⟨a,w,rfl,B,H,G,z,C⟩:=(r.mono H2 e).qat d;refine⟨_,rfl,oo,oo,_,_,_,_,_,_,_,_,C2 s.le H,C2 s.le G,C2 s.le z,C2 s.le C,?_⟩;refine s.call (Z1 (gl.mono e).p10 B (hs k d) hm ?_);intro N F;refine⟨_,rfl,_,rfl,oo,oo,?_⟩;refine OwnK.store F1 N9 (y:=E7 (f k)) e (B8 _) F p q l d rfl rfl ?_;intro R M;rw[wiS k oo];exact⟨⟨k+1,oo,rfl,M⟩,by simp only[U4];omega⟩};·have:k=n:=oo;subst this;exact hK b j ⟨g,o,xs,e,s,p,q,l⟩
def B36(r:RowV SSr h A n ls)(hn:n<=1000000)(hl:∀i,i<n->(ls i).length<=140737488351232) (hK1:(∀i,i<n->IsNum (ls i))->∀b h',Own NQr h h' b n (fun i=>rv (ls i))->K (.tuple #[.slice (some ⟨b,0,none⟩) n n,.bool true]) h') (hK0:¬(∀i,i<n->IsNum (ls i))->∀h',h.le h'->K (.tuple #[.slice none 0 0,.bool false]) h'):aN prog 44 #[.slice A n c] h K:=by refine(fnk func44 [(3,[5],[],[I 0])] (own:=[6])) ?_;refine G7 Tg (zx:=U1) rfl oo oo oo oo ?_;intro b N;refine⟨_,_,_,rfl,fun L u=>∃k:J,k<=n/\L=[I k]/\(∀i,i<k->IsNum (ls i))/\OwnK NQr h u b n k (fun i=>rv (ls i)),fun L _=>n-(iAt L 0).toNat,⟨0,oo,rfl,fun i R=>oo,OwnK.zero N⟩,?_⟩;rintro t u ⟨k,T,V,j,g,o,xs,l,s,E,F,D⟩;obtain rfl:t=(k:Z):=gz0;refine B9 (fun M=>?_) (fun G=>?_);{have d:k<n:=oo;obtain⟨a,rfl,S⟩:=(r.mono F1 (B6 l s.le)).sat d;refine⟨a,rfl,oo,oo,_,S,?_⟩;refine s.call (B2b (hl k d) ?_ ?_);{intro q e w C z H B p;refine⟨_,_,_,_,_,_,_,_,_,rfl,_,rfl,oo,oo,?_⟩;refine OwnK.store O6 Kl (y:=w) l z p E F D d rfl (by show NQ C w (rv (ls k));rw[e,F3];exact H) ?_;intro W Q;rw[wiS k oo];refine⟨⟨k+1,oo,rfl,fun i R=>?_,Q⟩,?_⟩;{by_cases O:i=k;{subst O;exact⟨q,e⟩};grind};·simp only[U4];omega};·intro m w C z B p;exact⟨_,_,_,_,_,_,_,_,_,rfl,hK0 (fun f=>m (f k d)) B (B6 l (B6 z p.le))⟩};·have:k=n:=oo;subst this;exact hK1 j b u ⟨g,o,xs,l,s,E,F,D⟩
def Yv(r:RowV NQr h A n f)(hn:n<=1000000)(hs:∀i,i<n->Sz m (f i))(hm:m<=1000000000) (hK:∀b h',Own SSr h h' b n (fun i=>E7 (f i))->K (.slice (some ⟨b,0,none⟩) n n) h'):aN prog 43 #[.slice A n c] h K:=by refine(fnk func43 [(3,[4],[],[I 0])]) ?_;refine G7 G2 (zx:=([]:dF UInt8)) rfl oo oo oo oo ?_;intro b E;refine⟨_,_,_,rfl,fun L j=>∃k:J,k<=n/\L=[I k]/\OwnK SSr h j b n k (fun i=>E7 (f i)),fun L _=>n-(iAt L 0).toNat,⟨0,oo,rfl,OwnK.zero E⟩,?_⟩;rintro t j ⟨k,O,Q,g,o,xs,e,s,p,q,l⟩;obtain rfl:t=(k:Z):=gz0;refine B9 (fun D=>?_) (fun u=>?_);{have d:k<n:=oo;obtain⟨a,w,rfl,B,H,G,z,C⟩:=(r.mono O6 e).qat d;refine⟨_,rfl,oo,oo,_,_,_,_,_,_,_,_,C2 s.le H,C2 s.le G,C2 s.le z,C2 s.le C,?_⟩;refine s.call (Ul B (hs k d) oo ?_);intro N F;refine⟨_,rfl,_,rfl,oo,oo,?_⟩;refine OwnK.store F1 N9 (y:=E7 (f k)) e (B8 _) F p q l d rfl rfl ?_;intro R M;rw[wiS k oo];exact⟨⟨k+1,oo,rfl,M⟩,by simp only[U4];omega⟩};·have:k=n:=oo;subst this;exact hK b j ⟨g,o,xs,e,s,p,q,l⟩
def Ai(f:J->Y):J->J
 |0=>1
 |n+1=>Nat.lcm (Ai f n) (f n).den
def Pg(f:J->Y):∀n,0<Ai f n:=by
 intro n
 induction n with
 |zero=>exact Nat.one_pos
 |succ n ih=>exact Nat.lcm_pos ih (f n).den_pos
def Ph(f:J->Y):∀n i,i<n->(f i).den∣Ai f n:=by
 intro n
 induction n with
 |zero=>omega
 |succ n ih=>
  intro i a;by_cases e:i=n;·subst e;exact Nat.dvd_lcm_right _ _
  ·exact Nat.dvd_trans (ih i o) (Nat.dvd_lcm_left _ _)
def ZB.lcm{k j:J}{x y:J}(hx:ZB k (x:Z))(hy:ZB j (y:Z)):ZB (k+j) ((Nat.lcm x y:J):Z):=by have:=hx.mul hy;refine Nat.lt_of_le_of_lt ?_ this;exact cM _ _
def Hj{f:J->Y}{m:J}:∀n,(∀i,i<n->Sz m (f i))->ZB (1+n*m) (Ai f n:Z):=by
 intro n
 induction n with
 |zero=>intro _;exact ZB.one o
 |succ n ih=>
  intro h;have:=(ih fun i a=>h i o).lcm (h n o).den;exact this.mono gz0
def Bo(gl:Gl h)(r:RowV RQr h A n f)(hn:n<=1000000)(hs:∀i,i<n->Sz m (f i))(hm:1+n*m+m<=6400000000) (hK:∀s A' n' c' h',h.le h'->ZI h' s A' n' c' (Ai f n:Z)->K (.agg #[.bool s,.slice A' n' c']) h'):aN prog 192 #[.slice A n c] h K:=by refine(fnk func192 [(3,[9],[(3,2)],[I 0,.bool false,.slice none 0 0])] (own:=[2,3,5])) ?_;refine O0 o o ?_;intro s1 A1 n1 c1 C l1 i1;refine⟨_,_,_,_,rfl,fun L y=>∃(k:J) (s:Bool) (B:Option aL) (p q:J),k<=n/\L=[I k,.bool s,.slice B p q]/\h.le y/\ZI y s B p q (Ai f k:Z),fun L _=>n-(iAt L 0).toNat,⟨0,_,_,_,_,o,rfl,l1,i1⟩,?_⟩;rintro t s B p q y ⟨k,D,B',j,g,hk,W,l,i⟩;obtain⟨rfl,rfl,rfl,rfl,rfl⟩:=W;have H:C4 ((k:Z)+1)=((k+1:J):Z):=by{rw[C0]<;>omega};refine B9 (fun R=>?_) (fun N=>?_);{have u:k<n:=o;obtain⟨a,w,rfl,F,X,T,O,Q⟩:=(r.mono H2 l).qat u;have d:1+k*m+m<=6400000000:=by{have:k*m<=n*m:=aH _ o;omega};have S:=(Hj k fun i hi=>hs i o).mono (show 1+k*m<=1+k*m+m from o);have M:=(hs k u).den.mono (show m<=1+k*m+m from o);refine⟨_,rfl,o,o,_,_,_,_,_,_,_,_,X,T,O,Q,?_⟩;refine F6 F.den ⟨_,rfl,?_⟩;have z:((if(f k).den=1 then 0 else((f k).den:Z))=0)↔(f k).den=1:=by{have:=(f k).den_pos;omega};have same:Ai f (k+1)=Ai f k->(∃(k':J) (D:Bool) (B':Option aL) (j g:J),k'<=n/\[I (C4 ((k:Z)+1)),.bool s,.slice B p q]=[I k',.bool D,.slice B' j g]/\h.le y/\ZI y D B' j g (Ai f k':Z))/\n-(iAt [I (C4 ((k:Z)+1)),.bool s,.slice B p q] 0).toNat<n-(iAt [I (k:Z),.bool s,.slice B p q] 0).toNat:=by{intro e;rw[H];exact⟨⟨k+1,_,_,_,_,o,rfl,l,gz0⟩,by simp only[U4];omega⟩};refine Br.not (B9 (fun C=>?_) (fun C=>?_));{have E:=z.1 C;exact same (by rw[Ai,E];grind)};·have E:(if(f k).den=1 then 0 else((f k).den:Z))=((f k).den:Z):=iN fun e=>C (z.2 e);have b:=F.den;rw[E]at b;refine A5u b i M d ⟨_,rfl,?_⟩;refine Br.not (B9 (fun G=>?_) (fun G=>?_));{have V:(f k).den=Ai f k:=by{exact_mod_cast G};exact same (by rw[Ai,V];grind)};·refine B1d (gl.mono l).tz i b S M d ?_;intro A' n' c' h' l' i';refine⟨_,_,_,_,rfl,?_⟩;rw[H];refine⟨⟨k+1,_,_,_,_,o,rfl,B6 l l',?_⟩,by simp only[U4];omega⟩;assumption};grind
def scl(q:Y)(d:Z):Z:=q.num*d.tdiv q.den
def C18(q:Y):q*(q.den:Y)=(q.num:Y):=by have h:=Rat.num_divInt_den q;rw[Rat.divInt_eq_div]at h;have a:((q.den:Z):Y)≠0:=T3 (den_ne q);have e:((q.den:Z):Y)=(q.den:Y):=rfl;grind
def A3e{q:Y}{d:Z}(h:(q.den:Z)∣d):(scl q d:Y)=q*d:=by obtain⟨e,rfl⟩:=h;unfold scl;rw[Int.mul_tdiv_cancel_left _ (den_ne q),aC,aC];have a:q*(q.den:Y)=(q.num:Y):=C18 q;have b:(((q.den:J):Z):Y)=(q.den:Y):=rfl;grind
def A3d{q:Y}{d:Z}{k:J}(hq:Sz m q)(hd:ZB k d):ZB (m+k) (scl q d):=hq.num.mul hd.tdiv
def Hb{s:Bool}{B:Option aL}{bn bc:J}{d:Z}(i:RQ h w q)(j:ZI h s B bn bc d)(hq:Sz m q)(hd:ZB m d)(hm:m<=6400000000) (hK:∀s A' n' c' h',h.le h'->ZI h' s A' n' c' (scl q d)->K (.agg #[.bool s,.slice A' n' c']) h'):aN prog 193 #[w.v,.agg #[.bool s,.slice B bn bc]] h K:=by refine(fnk func193 (own:=[2,3,4])) ?_;refine F6 i.den ⟨_,rfl,?_⟩;have c:((if q.den=1 then 0 else(q.den:Z))=0)↔q.den=1:=by{have:=q.den_pos;omega};refine B9 (fun f=>?_) (fun f=>?_);{refine I6 i.num j hq.num hd o ?_;intro p A' n' c' h' l z;refine⟨_,_,_,_,rfl,hK _ _ _ _ _ l ?_⟩;have:scl q d=q.num*d:=by{unfold scl;simp_all};grind};·have k:(if q.den=1 then 0 else(q.den:Z))=(q.den:Z):=iN fun e=>f (c.2 e);have a:=i.den;rw[k]at a;refine R3 j a hd hq.den hm (den_ne q) ?_;intro p A1 y c1 r b i1;refine⟨_,_,_,_,rfl,b,?_⟩;refine I6 (i.num.mono b) i1 hq.num hd.tdiv o ?_;intro t A2 A c2 u g n;exact⟨_,_,_,_,rfl,g,hK _ _ _ _ _ (B6 b g) n⟩
end
instance:Enc Z:=⟨⟨fun z=>[I z],1,fun _=>rfl,fun z v hv=>by rw [List.mem_singleton.1 hv];rfl⟩⟩
abbrev IIr:aI->Z->Z->Prop:=fun _ w z=>w=z
section
variable {α:Type} [E:Enc α]
def OwnSl(o:aI)(e:aQ)(A:Option aL)(c:J)(xs:dF α):Prop:=xs.length<=c/\((c=0/\A=none)\/∃b arr,A=some ⟨b,0,none⟩/\o b=some (.cells (cX arr) e)/\arr.length=c*E.default.size/\arr.take (xs.length*E.default.size)=xs.flatMap enc)
def OwnSl.nil{o:aI}{e:aQ}:OwnSl o e none 0 ([]:dF α):=⟨aJ _,.inl ⟨rfl,rfl⟩⟩
def OwnSl.keep{o o':aI}{e:aQ}{A:Option aL}{c:J}{xs:dF α}(w:OwnSl o e A c xs)(h:∀b x,A=some ⟨b,0,none⟩->o b=some x->o' b=some x):OwnSl o' e A c xs:=by refine⟨w.1,?_⟩;rcases w.2 with g|⟨b,a,j,i,f,d⟩;{grind};grind
def OwnSl.rowB{o:aI}{e:aQ}{A:Option aL}{c:J}{xs:dF α}(w:OwnSl o e A c xs)(hne:xs≠[]):∃b,A=some ⟨b,0,none⟩/\RowB o b xs:=by rcases w.2 with j|⟨b,a,g,f,i,d⟩;{exfalso;have:=w.1;simp_all};·exact⟨b,g,e,a.drop (xs.length*E.default.size),by rw[f,<- d,aO]⟩
def OwnSl.slF{o h:aI}{e:aQ}{A:Option aL}{c:J}{xs:dF α}(w:OwnSl o e A c xs)(hl:o.le h):SlF h A xs:=by by_cases a:xs=[];{rw[a];exact SlF.nil};·obtain⟨b,rfl,r⟩:=w.rowB a;exact r.slF hl
def OwnSl.priv{h g o:aI}{e:aQ}{A:Option aL}{c:J}{xs:dF α}(s:Sep h g o)(w:OwnSl o e A c xs):∃gb,PrivF h gb e A c xs/\∀k x,h k=some x->A≠some ⟨k,0,none⟩->gb k=some x:=by rcases w.2 with⟨l,j⟩|⟨b,a,n,m,i,f⟩;{subst l;have p:xs=[]:=aM (by have:=w.1;omega);subst p;exact⟨h,PrivF.nil h e A,fun k x e _=>e⟩};·refine⟨h.without b,⟨N3 xs,w.1,.inr ⟨b,a,n,Bj _ _,(P8 (s.own b _ m)).symm,i,f⟩⟩,fun k x e d=>?_⟩;unfold Heap.without;grind
def OwnSl.push{P:Program}{t e ty:aQ}{z:cN}{bytes:J}(st:SliceT P t e z E.default.size bytes){h g o:aI}{A:Option aL}{c:J}{xs:dF α}(s:Sep h g o)(w:OwnSl o e A c xs){v:cN}{y:α}(hv:v.cells=(enc y).toArray)(hsz:E.default.size<=1000)
 (hb:(2*(xs.length+1)+192)*bytes<=281474976710656) (hn:xs.length+1<=9223372036854775807) {K1:aI->Prop} {K:Option aL->J->J->aI->Prop}
 (x0:∀h1,h.le h1->K1 h1)
 (x:∀A' c' h' g' o',g.le g'->Sep h' g' o'->OwnSl o' e A' c' (xs++[y])->(∀k u,o k=some u->A≠some ⟨k,0,none⟩->o' k=some u/\A'≠some ⟨k,0,none⟩)->K A' (xs.length+1) c' h'):
 wpH P (Instr.buildSlice t 1 #[(0,v)]) (fun v' hp=>∃(B:Option aL) (m d:J),v'= .slice B m d/\K1 hp/\wpH P (Builtin.append_ #[t,t] ty #[.slice A xs.length c,.slice B m d]) (fun v1 hp1=>∃(A':Option aL) (n' c':J),v1= .slice A' n' c'/\K A' n' c' hp1) hp) h:=by
 obtain⟨S,p,M⟩:=w.priv s;refine Ah st (vs:=[v]) (fun u hu=>by rw[List.mem_singleton.1 hu,hv];simp[E.default.len]) rfl gz0 rfl ?_;intro b f;have L:[v].flatMap (fun v=>v.cells.toList)=[y].flatMap enc:=by simp[hv]
 rw[L];refine⟨_,_,_,rfl,x0 _ (Heap.le_put _ f),?_⟩;have p':PrivF (h.put b (.cells ([y].flatMap enc).toArray e)) (S.put b (.cells ([y].flatMap enc).toArray e)) e A c xs:=Priv.put p f _;refine R9 st p' (ys:=[y]) rfl (Rv e h b [y]) hb hn ?_;intro A' c' h' g' V hp;refine⟨_,_,_,rfl,?_⟩;rw[List.length_append]
 have q:∀k u,h k=some u->A≠some ⟨k,0,none⟩->g' k=some u:=by
  intro k u a Q;have j:k≠b:=gz0;exact V k u (by rw[C1 _ _ j];grind)
 have H:∀k u,g k=some u->A≠some ⟨k,0,none⟩:=by
  intro k u a r;rcases w.2 with⟨_,h0⟩|⟨n,l,i,C,_⟩;·grind
  ·rw[r]at i;simp only[Option.some.injEq,Addr.mk.injEq,and_true]at i;subst i;rw[s.dis k _ C]at a;cases a
 rcases hp.2.2 with⟨R,_⟩|⟨n,l,i,C,D,ha,T⟩
 ·exfalso;have:=hp.2.1;grind
 ·subst i;let o':aI:=fun k=>if k=n then some (.cells (cX l) e)else if A=some ⟨k,0,none⟩then none else o k;have O:o' n=some (.cells (cX l) e):=gz0;have ok:∀k,k≠n->A≠some ⟨k,0,none⟩->o' k=o k:=fun k h1 G=>by grind
  let g2:aI:=fun k=>match o' k with|some _=>none|none=>h' k
  have X:∀k u,o' k=some u->g2 k=none:=fun k u a=>by grind
  have gn:∀k,o' k=none->g2 k=h' k:=fun k a=>by grind
  have F:∀k u,k≠n->g' k=some u->h' k=some u:=fun k u h1 a=>by rw[D,C1 _ _ h1];exact a
  have N:∀k u,o k=some u->A≠some ⟨k,0,none⟩->k≠n:=by
   rintro k u a G rfl;have:=q k u (s.own k u a) G;grind
  refine x _ c' h' g2 o' (fun k u a=>?_) ⟨fun k u a=>?_,fun k a=>(gn k a).symm,X⟩ ⟨hp.2.1,.inr ⟨n,l,rfl,O,ha,T⟩⟩ (fun k u a G=>?_)
  ·have W:o k=none:=by
    cases ho:o k with
    |none=>rfl
    |some y=>rw[s.dis k y ho]at a;cases a
   have r:=H k u a;have e3:=q k u (s.le k u a) r;grind
  ·by_cases j:k=n
   ·subst j;rw[O]at a;cases a;rw[D,C3]
   ·by_cases r:A=some ⟨k,0,none⟩;·grind
    ·rw[ok k j r]at a;exact F k u j (q k u (s.own k u a) r)
  grind
end
structure Tb where
 bt:J
 bE:J
 bS:J
 rows:J
 cols:J
 cE:J
 cS:J
structure Tab (h g o:aI) (T:Tb) (M:J->J->Z) (S:J->Y):Prop where
 sep:Sep h g o
 n1:T.bt≠T.bE
 n2:T.bt≠T.bS
 n3:T.bE≠T.bS
 head:∃ e,o T.bt=some (.cells #[I T.cols,.slice (some ⟨T.bE,0,none⟩) (T.rows*T.cols) T.cE,.slice (some ⟨T.bS,0,none⟩) T.rows T.cS] e)
 elems:∃ ws:dF IV,RowB o T.bE ws/\ws.length=T.rows*T.cols/\∀ i j,i<T.rows->j<T.cols->∃ w,ws[i*T.cols+j]? = some w/\ZIr g w (M i j)
 scales:∃ ss:dF QV,RowB o T.bS ss/\ss.length=T.rows/\Row RQr g ss T.rows S
 cE:T.rows*T.cols<=T.cE
 cS:T.rows<=T.cS
 small:T.rows<=10000/\T.cols<=10000
 pos:0<T.cols
def C87(M:J->J->Z)(i j:J)(z:Z):J->J->Z:=fun a b=>if a=i/\b=j then z else M a b
def V5{rows cols i j:J}(hi:i<rows)(hj:j<cols):i*cols+j<rows*cols:=by have:(i+1)*cols<=rows*cols:=aH _ hi;grind
def C1g{cols i j i' j':J}(hj:j<cols)(hj':j'<cols)(h:i*cols+j=i'*cols+j'):i=i'/\j=j':=by have a:(i*cols+j)/cols=i:=by{rw[Nat.mul_comm,Nat.mul_add_div o,Nat.div_eq_of_lt hj,cW]};have b:(i'*cols+j')/cols=i':=by{rw[Nat.mul_comm,Nat.mul_add_div o,Nat.div_eq_of_lt hj',cW]};grind
section
variable {h g o:aI} {T:Tb} {M:J->J->Z} {S:J->Y} {K:VP} {m:J}
def Tab.next(t:Tab h g o T M S){h' g':aI}(s:Sep h' g' o)(l:g.le g'):Tab h' g' o T M S:=by refine⟨s,t.n1,t.n2,t.n3,t.head,?_,?_,t.cE,t.cS,t.small,t.pos⟩;{obtain⟨d,r,hl,a⟩:=t.elems;refine⟨d,r,hl,fun i j f b=>?_⟩;obtain⟨w,e,k⟩:=a i j f b;exact⟨w,e,Q8 _ _ _ _ l k⟩};·obtain⟨c,r,hl,a⟩:=t.scales;exact⟨c,r,hl,a.mono H2 l⟩
def Tab.congr(t:Tab h g o T M S){M':J->J->Z}{S':J->Y}(hM:∀i j,i<T.rows->j<T.cols->M i j=M' i j)(hS:∀i,i<T.rows->S i=S' i):Tab h g o T M' S':=by refine⟨t.sep,t.n1,t.n2,t.n3,t.head,?_,?_,t.cE,t.cS,t.small,t.pos⟩;{obtain⟨c,r,hl,a⟩:=t.elems;grind};·obtain⟨b,r,hl,a⟩:=t.scales;exact⟨b,r,hl,a.congr hS⟩
def Tab.c0(t:Tab h g o T M S):h.cell? (aE ⟨T.bt,0,none⟩ 0)=some (I T.cols):=by obtain⟨e,a⟩:=t.head;refine t.sep.cell ?_;rw[D9];unfold Heap.cell?;grind
def Tab.c1(t:Tab h g o T M S):h.cell? (aE ⟨T.bt,0,none⟩ 1)=some (.slice (some ⟨T.bE,0,none⟩) (T.rows*T.cols) T.cE):=by obtain⟨e,a⟩:=t.head;refine t.sep.cell ?_;rw[D9];unfold Heap.cell?;grind
def Tab.c2(t:Tab h g o T M S):h.cell? (aE ⟨T.bt,0,none⟩ 2)=some (.slice (some ⟨T.bS,0,none⟩) T.rows T.cS):=by obtain⟨e,a⟩:=t.head;refine t.sep.cell ?_;rw[D9];unfold Heap.cell?;grind
def Tab.at(t:Tab h g o T M S){i j:J}(hi:i<T.rows)(hj:j<T.cols):∃w:IV,ZIr g w (M i j)/\h.cell? (aE (aE ⟨T.bE,i*T.cols*2,none⟩ (j*2)) 0)=some (.bool w.s)/\h.cell? (aE (aE ⟨T.bE,i*T.cols*2,none⟩ (j*2)) 1)=some (.slice w.A w.n w.c):=by obtain⟨k,r,hl,d⟩:=t.elems;obtain⟨w,e,l⟩:=d i j hi hj;have f:=V5 hi hj;have a:k[i*T.cols+j]=w:=by{grind};have b:i*T.cols*2+j*2=(i*T.cols+j)*2:=by{rw[Nat.add_mul]};refine⟨w,l,t.sep.cell ?_,t.sep.cell ?_⟩;{rw[D9,D9,b];exact r.cell (i:=i*T.cols+j) oo (j:=0) (v:=.bool w.s) (by rw[a];rfl)};·rw[D9,D9,b];exact r.cell (i:=i*T.cols+j) oo (j:=1) (v:=.slice w.A w.n w.c) (by rw[a];rfl)
def Tab.ato(t:Tab h g o T M S){i j:J}(hi:i<T.rows)(hj:j<T.cols):∃w:IV,ZIr g w (M i j)/\o.cell? (aE (aE ⟨T.bE,i*T.cols*2,none⟩ (j*2)) 0)=some (.bool w.s)/\o.cell? (aE (aE ⟨T.bE,i*T.cols*2,none⟩ (j*2)) 1)=some (.slice w.A w.n w.c):=by obtain⟨k,r,hl,d⟩:=t.elems;obtain⟨w,e,l⟩:=d i j hi hj;have f:=V5 hi hj;have a:k[i*T.cols+j]=w:=by{grind};have b:i*T.cols*2+j*2=(i*T.cols+j)*2:=by{rw[Nat.add_mul]};refine⟨w,l,?_,?_⟩;{rw[D9,D9,b];exact r.cell (i:=i*T.cols+j) oo (j:=0) (v:=.bool w.s) (by rw[a];rfl)};·rw[D9,D9,b];exact r.cell (i:=i*T.cols+j) oo (j:=1) (v:=.slice w.A w.n w.c) (by rw[a];rfl)
def Sep.le_le{h' g':aI}(s:Sep h g o)(s':Sep h' g' o)(l:g.le g'):h.le h':=fun k x e=>by
 cases ho:o k with
 |some y=>rw[s.own k y ho]at e;rw[s'.own k y ho];exact e
 |none=>rw[s.rest k ho]at e;rw[s'.rest k ho];exact l k x e
def Tab.sat(t:Tab h g o T M S){i:J}(hi:i<T.rows):∃w:QV,RQ g w (S i)/\h.cell? (aE (aE ⟨T.bS,0,none⟩ (i*4)) 0)=some (.bool w.s)/\h.cell? (aE (aE ⟨T.bS,0,none⟩ (i*4)) 1)=some (.slice w.A w.n w.c)/\h.cell? (aE (aE ⟨T.bS,0,none⟩ (i*4)) 2)=some (.bool w.s2)/\h.cell? (aE (aE ⟨T.bS,0,none⟩ (i*4)) 3)=some (.slice w.A2 w.n2 w.c2):=by obtain⟨f,r,hl,a⟩:=t.scales;obtain⟨w,e,b⟩:=a i hi;have cell:∀k v,(enc w)[k]? = some v->h.cell? (aE (aE ⟨T.bS,0,none⟩ (i*4)) k)=some v:=by{intro k v d;refine t.sep.cell ?_;rw[D9,D9,aS];exact r.cell (i:=i) oo (j:=k) gz0};exact⟨w,b,cell 0 _ rfl,cell 1 _ rfl,cell 2 _ rfl,cell 3 _ rfl⟩
def Tab.store(t:Tab h g o T M S){i j:J}(hi:i<T.rows)(hj:j<T.cols){w:IV}{z:Z}(hz:ZIr g w z){K:Unit->aI->Prop} (x:∀h' o',Tab h' g o' T (C87 M i j z) S->(∀k,k≠T.bE->o' k=o k)->K () h'):wpH prog (aX 118 (.pointer (some (aE ⟨T.bE,i*T.cols*2,none⟩ (j*2)))) w.v) K h:=by obtain⟨N,r,hl,p⟩:=t.elems;have A:=V5 hi hj;have F:i*T.cols*2+j*2=(i*T.cols+j)*2:=by{rw[Nat.add_mul]};rw[D9,F];refine Sep.store (E:=inferInstanceAs (Enc IV)) Uo (v:=w.v) (y:=w) rfl t.sep r (i:=i*T.cols+j) oo rfl ?_;intro h' o' L d q B;refine x h' o' ⟨q,t.n1,t.n2,t.n3,?_,⟨_,B,gz0,fun a b f m=>?_⟩,?_,t.cE,t.cS,t.small,t.pos⟩ (fun k s=>by rw[d,C1 _ _ s]);{obtain⟨e,D⟩:=t.head;exact⟨e,by rw[d,C1 _ _ t.n1];exact D⟩};{unfold C87;by_cases e:a=i/\b=j;{grind};·obtain⟨u,C,H⟩:=p a b f m;refine⟨u,?_,gz0⟩;rw[List.getElem?_set_ne (fun x=>e (by have:=C1g hj m x;omega))];exact C};·obtain⟨G,n,c,l⟩:=t.scales;exact⟨G,by rw[d];exact n.other t.n3.symm _,c,l⟩
def Tab.sstore(t:Tab h g o T M S){i:J}(hi:i<T.rows){w:QV}{q:Y}(hz:RQ g w q){K:Unit->aI->Prop} (x:∀h' o',Tab h' g o' T M (fun a=>if a=i then q else S a)->(∀k,k≠T.bS->o' k=o k)->K () h'):wpH prog (aX 143 (.pointer (some (aE ⟨T.bS,0,none⟩ (i*4)))) w.v) K h:=by obtain⟨u,r,hl,j⟩:=t.scales;rw[D9,aS];refine Sep.store (E:=inferInstanceAs (Enc QV)) Gy (v:=w.v) (y:=w) rfl t.sep r (i:=i) oo rfl ?_;intro h' o' z c l n;refine x h' o' ⟨l,t.n1,t.n2,t.n3,?_,?_,⟨_,n,gz0,Row.upd j oo hz⟩,t.cE,t.cS,t.small,t.pos⟩ (fun k m=>by rw[c,C1 _ _ m]);{obtain⟨e,p⟩:=t.head;exact⟨e,by rw[c,C1 _ _ t.n2];exact p⟩};·obtain⟨s,f,b,d⟩:=t.elems;exact⟨s,by rw[c];exact f.other t.n3 _,b,d⟩
def O5{n:J}(h:n<=9223372036854775807):C4 (n:Z)=(n:Z):=C0 oo oo
def Ae(t:Tab h g o T M S){i:J}(hi:i<T.rows)(hK:K (.slice (some ⟨T.bE,i*T.cols*2,none⟩) T.cols (T.cE-i*T.cols)) h):aN prog 238 #[.pointer (some ⟨T.bt,0,none⟩),I (i:Z)] h K:=by refine(fnk func238) ?_;have hs:=t.small;have k:=t.pos;have f:(i+1)*T.cols<=T.rows*T.cols:=aH _ hi;have e:T.rows*T.cols<=10000*10000:=Nat.mul_le_mul hs.1 hs.2;have j:=t.cE;have c:(i+1)*T.cols=i*T.cols+T.cols:=gz0;have b:C4 ((i:Z)*(T.cols:Z))=((i*T.cols:J):Z):=by{exact O5 oo};have a:C4 ((i:Z)+1)=((i+1:J):Z):=C0 oo oo;have d:C4 (C4 ((i:Z)+1)*(T.cols:Z))=(((i+1)*T.cols:J):Z):=by{rw[a,<- Int.natCast_mul];exact O5 oo};refine⟨_,rfl,_,_,_,t.c1,_,rfl,_,t.c0,_,rfl,_,t.c0,?_⟩;rw[b,d];refine⟨⟨oo,oo⟩,⟨oo,oo⟩,?_⟩;simp only[bI];rw[Gb oo,D9,aS,c,cR];exact hK
def A4t(t:Tab h g o T M S){start col:J}(hs:start<=T.rows)(hc:col<T.cols) (hK1:fnd (fun i=>decide (M i col≠0)) (T.rows-start) start<T.rows->K (.tuple #[I ((fnd (fun i=>decide (M i col≠0)) (T.rows-start) start:J):Z),.bool true]) h) (hK0:fnd (fun i=>decide (M i col≠0)) (T.rows-start) start=T.rows->K (.tuple #[I 0,.bool false]) h):aN prog 244 #[.pointer (some ⟨T.bt,0,none⟩),I (start:Z),I (col:Z)] h K:=by refine(fnk func244 [(2,[8],[],[I 0])]) ?_;refine⟨fun L d=>∃k:J,k<=T.rows/\L=[I k]/\d=h/\start<=k/\∀j,start<=j->j<k->decide (M j col≠0)=false,fun L _=>T.rows-(iAt L 0).toNat,⟨start,hs,rfl,rfl,aJ _,fun j c f=>oo⟩,?_⟩;rintro i d ⟨k,s,u,rfl,b,l⟩;obtain rfl:i=(k:Z):=gz0;refine⟨_,rfl,_,_,_,t.c2,B9 (fun p=>?_) (fun m=>?_)⟩;{have a:k<T.rows:=oo;refine Ae t a ⟨_,_,_,rfl,_,rfl,oo,oo,?_⟩;obtain⟨w,n,q,r⟩:=t.at a hc;refine⟨_,_,_,_,q,r,F6 (n.mono t.sep.le) ⟨_,rfl,Br.not (B9 (fun e=>?_) (fun e=>?_))⟩⟩;{rw[show C4 ((k:Z)+1)=((k+1:J):Z) by have:=t.small;rw[C0]<;>omega];refine⟨⟨k+1,oo,rfl,rfl,oo,fun j c f=>?_⟩,by simp only[U4];omega⟩;grind};·have:fnd (fun i=>decide (M i col≠0)) (T.rows-start) start=k:=A4q _ b oo l (fun _=>gz0);grind};·have:fnd (fun i=>decide (M i col≠0)) (T.rows-start) start=T.rows:=A4q _ hs oo (fun j c f=>l j c oo) (fun y=>oo);grind
def B1x(t:Tab h g o T M S){i k:J}(hi:i<T.rows)(hk:k<T.rows)(hik:i≠k) (hK:∀h' o',Tab h' g o' T (fun a=>M (xch i k a)) (fun a=>S (xch i k a))->(∀b,b≠T.bE->b≠T.bS->o' b=o b)->K (.tuple #[]) h'):aN prog 245 #[.pointer (some ⟨T.bt,0,none⟩),I (i:Z),I (k:Z)] h K:=by refine(fnk func245 [(2,[17],[],[I 0])]) ?_;refine Ae t hi ⟨_,_,_,rfl,Ae t hk ⟨_,_,_,rfl,?_⟩⟩;refine⟨fun L C=>∃(c:J) (r:aI),c<=T.cols/\L=[I c]/\Tab C g r T (fun a b=>if b<c then M (xch i k a) b else M a b) S/\∀b,b≠T.bE->r b=o b,fun L _=>T.cols-(iAt L 0).toNat,⟨0,o,oo,rfl,t.congr (fun a b _ _=>oo) (fun _ _=>rfl),fun _ _=>rfl⟩,?_⟩;rintro z C ⟨c,r,hc,eL,t1,V⟩;obtain rfl:z=(c:Z):=gz0;refine B9 (fun H=>?_) (fun E=>?_);{have d:c<T.cols:=oo;obtain⟨l,f,s,q⟩:=t1.at hk d;obtain⟨B,e,j,y⟩:=t1.at hi d;rw[iN (cO c)]at f e;refine⟨_,rfl,oo,oo,_,_,_,_,s,q,_,rfl,oo,oo,_,_,_,_,j,y,_,rfl,oo,oo,?_⟩;refine t1.store hi d (w:=l) f ?_;intro N Q m A;refine⟨_,rfl,oo,oo,?_⟩;refine m.store hk d (w:=B) e ?_;intro D u n p;rw[show C4 ((c:Z)+1)=((c+1:J):Z) by have:=t.small;rw[C0]<;>omega];refine⟨⟨c+1,u,oo,rfl,n.congr (fun a b _ _=>?_) (fun _ _=>rfl),fun b O=>gz0⟩,by simp only[U4];omega⟩;show(if a=k/\b=c then M i c else if a=i/\b=c then M k c else if b<c then M (xch i k a) b else M a b)=if b<c+1 then M (xch i k a) b else M a b;unfold xch;grind};·obtain⟨l,f,s,q,F,G⟩:=t1.sat hk;obtain⟨B,e,j,y,R,X⟩:=t1.sat hi;refine⟨_,rfl,_,_,_,t1.c2,_,rfl,_,_,_,t1.c2,_,rfl,_,_,_,t1.c2,_,rfl,oo,oo,_,_,_,_,_,_,_,_,s,q,F,G,_,rfl,_,_,_,t1.c2,_,rfl,oo,oo,_,_,_,_,_,_,_,_,j,y,R,X,_,rfl,oo,oo,?_⟩;refine t1.sstore hi (w:=l) f ?_;intro N Q m A;refine⟨_,rfl,oo,oo,?_⟩;refine m.sstore hk (w:=B) e ?_;intro D u n p;refine hK D u (n.congr (fun a b _ O=>oo) (fun a _=>?_)) (fun b aa W=>gz0);show(if a=k then S i else if a=i then S k else S a)=S (xch i k a);unfold xch;grind
end
def Ru{P:Program}{t:aQ}{v:cN}{K:VP}{h:aI}(x:∀b,h b=none->K (.pointer (some ⟨b,0,none⟩)) (h.put b (.cells v.cells t))):wpH P (Instr.box t v) K h:=by exact x
def A1f{m k:J}(hm:1<=m)(hk:k<4611686018427387904):(k:Z)*2^(2*m)<b64^m:=by have e:b64^m=(2:Z)^(2*m)*2^(62*m):=by{have:b64=(2:Z)^64:=dc;rw[this,<- Int.pow_mul,<- Int.pow_add];grind};have a:(2:Z)^62<=2^(62*m):=D7 dc o;have c:(k:Z)<2^62:=by{omega};have b:(0:Z)<2^(2*m):=bJ dc;rw[e,aT];exact Int.mul_lt_mul_of_pos_left (Int.lt_of_lt_of_le c a) b
def Ms{m:J}{x y:Z}(hx:ZB m x)(hy:ZB m y):((x*y).natAbs:Z)<=2^(2*m):=by have:=hx.mul hy;unfold ZB at this;grind
section
variable {h g o:aI} {T:Tb} {M:J->J->Z} {S:J->Y} {K:VP} {m:J}
def Tw:(prog.info? 217).map (·.zero)=some (some (.agg #[.slice none 0 0,.slice none 0 0])):=by kernel_rfl
def Zs(t:Tab h g o T M S){i p c:J}{wb:IV}{d:Z}(hi:i<T.rows)(hp':p<T.rows)(hip:i≠p)(hc:c<T.cols)(ib:ZIr g wb d)(hd:d≠0)(hm1:1<=m)(hm:2*m+1<=100000000)(hMi:∀b,b<T.cols->ZB m (M i b))(hMp:∀b,b<T.cols->ZB m (M p b))(hdb:ZB m d)
 (hK:∀h' g' o',g.le g'->Tab h' g' o' T (fun a b=>if a=i then(M p c*M i b-M i c*M p b).tdiv d else M a b) S->(∀b,b≠T.bE->o' b=o b)->K (.tuple #[]) h'):aN prog 246 #[.pointer (some ⟨T.bt,0,none⟩),I (i:Z),I (p:Z),I (c:Z),wb.v] h K:=by
 refine(fnk func246 [(4,[28],[],[I 0])] (cs:=[(7,[],[],[])]) (os:=[(10,[0,1,3,2,4,5,6])]) (own:=[9,12,14]) (wr:=[127,135])) ?_;refine Ae t hi ⟨_,_,_,rfl,Ae t hp' ⟨_,_,_,rfl,?_⟩⟩;obtain⟨wf,zf,f0,f1⟩:=t.at hi hc;refine⟨_,rfl,oo,oo,_,_,_,_,f0,f1,?_⟩;refine⟨fun L R=>∃(k:J) (j l:aI),k<=T.cols/\L=[I k]/\g.le j/\Tab R j l T (fun a b=>if a=i/\b<k then(M p c*M i b-M i c*M p b).tdiv d else M a b) S/\∀b,b≠T.bE->l b=o b,fun L _=>T.cols-(iAt L 0).toNat,⟨0,g,o,oo,rfl,B8 _,t.congr (fun a b _ _=>oo) (fun _ _=>rfl),fun _ _=>rfl⟩,?_⟩;rintro z V ⟨k,j,l,hk,eL,E,t1,N⟩;obtain rfl:z=(k:Z):=gz0;have ew:C4 ((k:Z)+1)=((k+1:J):Z):=by have:=t.small;rw[C0]<;>omega
 refine B9 (fun ad=>?_) (fun ac=>?_)
 ·have f:k<T.cols:=oo;obtain⟨w1,Q,d0,d1⟩:=t1.at hi f;rw[iN oo]at Q
  have same:(M p c*M i k-M i c*M p k).tdiv d=M i k->(∃(k':J) (j l:aI),k'<=T.cols/\[I (C4 ((k:Z)+1))]=[I k']/\g.le j/\Tab V j l T (fun a b=>if a=i/\b<k' then(M p c*M i b-M i c*M p b).tdiv d else M a b) S/\∀b,b≠T.bE->l b=o b)/\T.cols-(iAt [I (C4 ((k:Z)+1))] 0).toNat<T.cols-(iAt [I (k:Z)] 0).toNat:=by
   intro e;rw[ew];refine⟨⟨k+1,j,l,oo,rfl,E,t1.congr (fun a b _ _=>?_) (fun _ _=>rfl),N⟩,by simp only[U4];omega⟩;grind
  refine⟨_,rfl,oo,oo,_,_,_,_,d0,d1,fun L R=>R=V,?_,?_⟩
  ·refine F6 (Q.mono t1.sep.le) ⟨_,rfl,B9 (fun e1=>?_) (fun _=>rfl)⟩;refine F6 (zf.mono (B6 E t1.sep.le)) ⟨_,rfl,B9 (fun e2=>same (by simp_all)) (fun _=>?_)⟩;obtain⟨w2,G,c0,c1⟩:=t1.at hp' f;refine⟨_,rfl,oo,oo,_,_,_,_,c0,c1,F6 (G.mono t1.sep.le) ⟨_,rfl,B9 (fun e3=>same (by simp_all)) (fun _=>rfl)⟩⟩
  ·rintro R rfl;refine An Tw ?_;intro bs q
   have aa:j bs=none:=by
    cases hx:j bs with
    |none=>rfl
    |some y=>rw[t1.sep.le _ _ hx]at q;cases q
   have W:=t1.sep.vis q (.cells #[.slice none 0 0,.slice none 0 0] 217);have Z0:SumS (j.put bs (.cells #[.slice none 0 0,.slice none 0 0] 217)) j bs 217 200000001 0 0:=SumS.zero aa;obtain⟨w3,z3,a0,a1⟩:=t1.ato hp' hc;obtain⟨w2,G,c0,c1⟩:=t1.ato hp' f;rw[iN oo]at G z3;have O:∀{gg:aI} {w:IV} {x:Z},ZIr gg w x->ZB m x->w.n<=100000000:=fun i b=>ZI.len i b oo;have s:=hMp c hc;have r:=hMi k f;have B:=hMi c hc;have u:=hMp k f;have q1:=Ms s r;have q2:=Ms B u;have q0:=A1f (m:=m) (k:=2) hm1 oo;have l3:=O z3 s;have l1:=O Q r;have lf:=O zf B;have l2:=O G u;refine⟨_,rfl,_,rfl,oo,oo,_,_,_,_,W.cell a0,W.cell a1,?_⟩;refine W.call (O9 Z0 z3 Q oo oo (N1:=m) oo oo ?_);intro G3 g3 C Z3 H3 s3;refine⟨rfl,_,rfl,oo,oo,_,_,_,_,s3.cell c0,s3.cell c1,?_⟩;refine s3.call (Ht Z3 (zf.mono (B6 E C)) (G.mono C) oo oo (N1:=m) oo oo ?_);intro G4 g4 X Z4 H4 s4;refine⟨rfl,s4.call (Cp Z4 oo ?_)⟩;intro sv Av nv cv G5 F z5 H5 s5;rw[cZ]at z5;refine⟨_,_,_,_,rfl,s4.le_le s5 F,?_⟩;have D:j.le G5:=B6 C (B6 X (B6 Z4.le F));have bz:ZB (2*m+1) (M p c*M i k-M i c*M p k):=((s.mul r).sub (B.mul u)).mono oo;refine s5.call (R3 z5 (ib.mono (B6 E D)) bz (hdb.mono oo) oo hd ?_);intro s6 A6 n6 c6 G6 A z6 H6 H;refine⟨_,_,_,_,rfl,s5.le_le H A,_,rfl,oo,oo,?_⟩;have t6:=t1.next H (B6 D A);refine t6.store hi f (w:=⟨s6,A6,n6,c6⟩) z6 ?_;intro H7 o7 t7 ae;rw[ew];refine⟨⟨k+1,G6,o7,oo,rfl,B6 E (B6 D A),t7.congr (fun a b _ _=>?_) (fun _ _=>rfl),fun b hb=>gz0⟩,by simp only[U4];omega⟩;show(if a=i/\b=k then(M p c*M i k-M i c*M p k).tdiv d else if a=i/\b<k then(M p c*M i b-M i c*M p b).tdiv d else M a b)=_;grind
 ·exact hK V j l E (t1.congr (fun a b _ hb=>by
   omega) (fun _ _=>rfl)) N
def B6h(n:J)(s:PS)(h:s.cs=[]):∀c,(Im n s c).cs.length<=c:=by
 intro c
 induction c with
 |zero=>show s.cs.length<=0;grind
 |succ c ih=>
  show(Ey n c (Im n s c)).cs.length<=c+1;unfold Ey;grind
def A3f(n:J)(s:PS)(h:s.last≠0)(hs:s.sgn=1\/s.sgn= -1)(hl:s.cs.length<=n):∀c,(Im n s c).last≠0/\((Im n s c).sgn=1\/(Im n s c).sgn= -1)/\(Im n s c).cs.length<=n:=by
 intro c
 induction c with
 |zero=>exact⟨h,hs,hl⟩
 |succ c ih=>
  obtain⟨i1,d,b⟩:=ih;show(Ey n c (Im n s c)).last≠0/\((Ey n c (Im n s c)).sgn=1\/(Ey n c (Im n s c)).sgn= -1)/\(Ey n c (Im n s c)).cs.length<=n;have e:=A6e n c (Im n s c) b;unfold Ey;by_cases a:Vc n c (Im n s c)<n
  ·rw[iP a];have:=A1t (fun i=>decide ((Im n s c).M i c≠0)) (n-(Im n s c).cs.length) (Im n s c).cs.length (by unfold Vc at a;omega);refine⟨by simpa[Vc]using this,?_,?_⟩;·grind
   grind
  grind
def V8{α:Type}[E:Enc α]{P:Program}{t e ty:aQ}{z:cN}{bytes:J}(st:SliceT P t e z E.default.size bytes){h g o:aI}{A:Option aL}{c n:J}{xs:dF α}(s:Sep h g o)(w:OwnSl o e A c xs)(hxn:n=xs.length){v:cN}{y:α}(hv:v.cells=(enc y).toArray)(hsz:E.default.size<=1000) (hb:(2*(xs.length+1)+192)*bytes<=281474976710656) (hn:xs.length+1<=9223372036854775807) {K:Option aL->J->J->aI->Prop} (x:∀A' c' h' g' o',g.le g'->Sep h' g' o'->OwnSl o' e A' c' (xs++[y])->(∀k u,o k=some u->A≠some ⟨k,0,none⟩->o' k=some u/\A'≠some ⟨k,0,none⟩)->K A' (xs.length+1) c' h'): wpH P (Instr.buildSlice t 1 #[(0,v)]) (fun v' hp=>∃(B:Option aL) (m d:J),v'= .slice B m d/\wpH P (Builtin.append_ #[t,t] ty #[.slice A n c,.slice B m d]) (fun v1 hp1=>∃(A':Option aL) (n' c':J),v1= .slice A' n' c'/\K A' n' c' hp1) hp) h:=by refine Ke _ (OwnSl.push (ty:=ty) st s w hv hsz hb hn (K1:=fun _=>True) (K:=K) (fun _ _=>trivial) x) ?_;grind
def Tab.own(t:Tab h g o T M S):(∃x,o T.bt=some x)/\(∃x,o T.bE=some x)/\∃x,o T.bS=some x:=by obtain⟨e,b⟩:=t.head;obtain⟨k,⟨a,j,f⟩,_⟩:=t.elems;obtain⟨d,⟨i,l,c⟩,_⟩:=t.scales;grind
def Tab.keep(t:Tab h g o T M S){h' g' o':aI}(s:Sep h' g' o')(l:g.le g')(hk:∀k x,o k=some x->k=T.bt\/k=T.bE\/k=T.bS->o' k=some x):Tab h' g' o' T M S:=by refine⟨s,t.n1,t.n2,t.n3,?_,?_,?_,t.cE,t.cS,t.small,t.pos⟩;{obtain⟨e,p⟩:=t.head;grind};{obtain⟨f,⟨e,ex,b⟩,hl,a⟩:=t.elems;refine⟨f,⟨e,ex,hk _ _ b (.inr (.inl rfl))⟩,hl,fun i j m c=>?_⟩;obtain⟨w,e,n⟩:=a i j m c;exact⟨w,e,Q8 _ _ _ _ l n⟩};·obtain⟨d,⟨e,ex,b⟩,hl,a⟩:=t.scales;exact⟨d,⟨e,ex,hk _ _ b (.inr (.inr rfl))⟩,hl,a.mono H2 l⟩
abbrev zs(l:dF J):dF Z:=l.map fun(n:J)=>(n:Z)
def B88(T:Tb)(A:Option aL):Prop:=A≠some ⟨T.bt,0,none⟩/\A≠some ⟨T.bE,0,none⟩/\A≠some ⟨T.bS,0,none⟩
def A3n(t:Tab h g o T M S){c l nq:J}(hc:c<=T.cols)(hm1:1<=m)(hnq:∀k,k<=c->(Im T.rows ⟨M,S,[],1,1⟩ k).cs.length<=nq)(hm:2*(3^nq*m)+1<=100000000)(hz:ZbP T.rows T.cols m l ⟨M,S,[],1,1⟩)
 (hK:∀h' g' o' A cap w,g.le g'->Tab h' g' o' T (Im T.rows ⟨M,S,[],1,1⟩ c).M (Im T.rows ⟨M,S,[],1,1⟩ c).S->OwnSl o' 3 A cap (zs (Im T.rows ⟨M,S,[],1,1⟩ c).cs)->B88 T A->(∀k x,o k=some x->k≠T.bE->k≠T.bS->o' k=some x/\A≠some ⟨k,0,none⟩)->ZIr g' w (Im T.rows ⟨M,S,[],1,1⟩ c).last->
  K (.tuple #[.slice A (Im T.rows ⟨M,S,[],1,1⟩ c).cs.length cap,w.v,I (Im T.rows ⟨M,S,[],1,1⟩ c).sgn]) h'):aN prog 177 #[.pointer (some ⟨T.bt,0,none⟩),I (c:Z)] h K:=by
 refine(fnk func177 [(4,[7,9,17],[(8,2)],[.slice none 0 0,I 0,I 0,.bool false,.slice none 0 0]),(13,[45],[],[I 0])] (cs:=[(12,[9],[],[I 0])]) (own:=[5,8]) (wr:=[245,246])) ?_;have ay:=t.small;refine t.sep.call (O0 oo oo ?_);intro s1 A1 n1 c1 g1 l1 i1 h1 an;have t1:=t.next an l1
 refine⟨_,_,_,_,rfl,fun L hp=>∃(k:J) (g' o':aI) (A:Option aL) (cap:J) (w:IV),k<=c/\L=[.slice A (Im T.rows ⟨M,S,[],1,1⟩ k).cs.length cap,I (Im T.rows ⟨M,S,[],1,1⟩ k).sgn,I k,.bool w.s,.slice w.A w.n w.c]/\g.le g'/\Tab hp g' o' T (Im T.rows ⟨M,S,[],1,1⟩ k).M (Im T.rows ⟨M,S,[],1,1⟩ k).S/\OwnSl o' 3 A cap (zs (Im T.rows ⟨M,S,[],1,1⟩ k).cs)/\B88 T A/\(∀k x,o k=some x->k≠T.bE->k≠T.bS->o' k=some x/\A≠some ⟨k,0,none⟩)/\ZIr g' w (Im T.rows ⟨M,S,[],1,1⟩ k).last,
  fun L _=>c-(iAt L 2).toNat,⟨0,g1,o,none,0,⟨s1,A1,n1,c1⟩,oo,rfl,l1,t1,(OwnSl.nil:OwnSl o 3 none 0 ([]:dF Z)),⟨by simp,by simp,by simp⟩,fun k x e _ _=>⟨e,by simp⟩,i1⟩,?_⟩;rintro pA pn pc av z ls lA ln lc hp ⟨k,g2,o2,A,cap,w,hk,eL,lg,t2,ow,u,ko,iw⟩;obtain⟨⟨rfl,rfl,rfl⟩,rfl,rfl,rfl,rfl,rfl,rfl⟩:=eL;have E:=A3f T.rows ⟨M,S,[],1,1⟩ (show(1:Z)≠0 from dc) (.inl rfl) (Nat.zero_le _) k;have D:=hz.run hm1 k oo;refine B9 (fun a0=>?_) (fun a5=>?_)
 ·have G:k<T.cols:=oo;have ew:C4 ((k:Z)+1)=((k+1:J):Z):=by rw[C0]<;>omega
  have aj:Im T.rows ⟨M,S,[],1,1⟩ (k+1)=Ey T.rows k (Im T.rows ⟨M,S,[],1,1⟩ k):=rfl;have aw:3^(Im T.rows ⟨M,S,[],1,1⟩ k).cs.length*m<=3^nq*m:=aH _ (Nat.pow_le_pow_right dc (hnq k oo));have R:=A8c (Im T.rows ⟨M,S,[],1,1⟩ k).cs.length m hm1;generalize hst0:Im T.rows ⟨M,S,[],1,1⟩ k=st at *;have X:fnd (fun i=>decide (st.M i k≠0)) (T.rows-st.cs.length) st.cs.length=Vc T.rows k st:=rfl;have a3:=A6e T.rows k st E.2.2;refine A4t t2 E.2.2 G (fun V=>?_) (fun V=>?_)
  ·rw[X]at V ⊢;have q:Ey T.rows k st={ M:=clr (fun i=>st.M (xch st.cs.length (Vc T.rows k st) i)) st.cs.length k st.last,S:=fun i=>st.S (xch st.cs.length (Vc T.rows k st) i),cs:=st.cs++[k],last:=st.M (Vc T.rows k st) k,sgn:=if Vc T.rows k st=st.cs.length then st.sgn else-st.sgn }:=by unfold Ey;grind
   generalize hr:Vc T.rows k st=r at *;have p:st.cs.length<T.rows:=oo;refine⟨_,_,rfl,fun L hq=>∃(g3 B:aI),L=[I (if r=st.cs.length then st.sgn else-st.sgn)]/\g2.le g3/\Tab hq g3 B T (fun i=>st.M (xch st.cs.length r i)) (fun i=>st.S (xch st.cs.length r i))/\∀b,b≠T.bE->b≠T.bS->B b=o2 b,?_,?_⟩
   ·refine D8 (fun af=>?_) (fun al=>?_)
    ·have d:r≠st.cs.length:=oo;refine B1x t2 p V (fun e=>d e.symm) ?_;intro h3 B t3 aa;refine⟨rfl,g2,B,?_,B8 _,t3,aa⟩;rw[iN d];have:C4 (0-st.sgn)= - st.sgn:=by rw[C0]<;>omega
     rw[this]
    ·refine⟨g2,o2,gz0,B8 _,t2.congr (fun i j _ _=>?_) (fun i _=>?_),fun _ _ _=>rfl⟩;·unfold xch;grind
     ·unfold xch;grind
   ·rintro aq h4 ⟨g3,B,a1,l3,t3,aa⟩;obtain rfl:aq=if r=st.cs.length then st.sgn else-st.sgn:=gz0;refine⟨_,rfl,_,_,_,t3.c2,?_⟩;have xk:xch st.cs.length r st.cs.length=r:=Nr _ _;have ak:∀i,i<T.rows->xch st.cs.length r i<T.rows:=fun i hi=>Ll p V hi;refine⟨fun L hq=>∃(i:J) (O H:aI),i<=T.rows/\L=[I i]/\g3.le O/\Tab hq O H T (fun a b=>if a<i/\a≠st.cs.length then clr (fun i=>st.M (xch st.cs.length r i)) st.cs.length k st.last a b else st.M (xch st.cs.length r a) b) (fun i=>st.S (xch st.cs.length r i))/\∀b,b≠T.bE->H b=B b,fun L _=>T.rows-(iAt L 0).toNat,⟨0,g3,B,oo,rfl,B8 _,t3.congr (fun a b _ _=>oo) (fun _ _=>rfl),fun _ _=>rfl⟩,?_⟩;rintro zi h5 ⟨i,O,H,hi,a4,l4,t4,ao⟩;obtain rfl:zi=(i:Z):=gz0;have ad:C4 ((i:Z)+1)=((i+1:J):Z):=by rw[C0]<;>omega
    refine B9 (fun au=>?_) (fun ax=>?_)
    ·have ac:i<T.rows:=oo;refine D8 (fun af=>?_) (fun al=>?_)
     ·have d:i≠st.cs.length:=oo;refine Zs (m:=3^st.cs.length*m) t4 ac p d G (Q8 _ _ _ _ (B6 l3 l4) iw) E.1 R oo (fun b N=>?_) (fun b N=>?_) D.last ?_;·rw[iN oo];exact D.M _ b (ak i ac) N
      ·rw[iN oo,xk];exact D.M r b V N
      intro h6 g6 o6 l6 t6 a2;refine⟨rfl,?_⟩;rw[ad];refine⟨⟨i+1,g6,o6,oo,rfl,B6 l4 l6,t6.congr (fun a b _ _=>?_) (fun _ _=>rfl),fun b N=>gz0⟩,by simp only[U4];omega⟩;show(if a=i then((if st.cs.length<i/\st.cs.length≠st.cs.length then _ else st.M (xch st.cs.length r st.cs.length) k)*(if i<i/\i≠st.cs.length then _ else st.M (xch st.cs.length r i) b)-(if i<i/\i≠st.cs.length then _ else st.M (xch st.cs.length r i) k)*(if st.cs.length<i/\st.cs.length≠st.cs.length then _ else st.M (xch st.cs.length r st.cs.length) b)).tdiv st.last else if a<i/\a≠st.cs.length then clr (fun i=>st.M (xch st.cs.length r i)) st.cs.length k st.last a b else st.M (xch st.cs.length r a) b)=if a<i+1/\a≠st.cs.length then clr (fun i=>st.M (xch st.cs.length r i)) st.cs.length k st.last a b else st.M (xch st.cs.length r a) b;by_cases ea:a=i
      ·unfold clr;grind
      omega
     ·rw[ad];refine⟨⟨i+1,O,H,oo,rfl,l4,t4.congr (fun a b _ _=>?_) (fun _ _=>rfl),ao⟩,by simp only[U4];omega⟩;omega
    ·have Q:Tab h5 O H T (clr (fun i=>st.M (xch st.cs.length r i)) st.cs.length k st.last) (fun i=>st.S (xch st.cs.length r i)):=t4.congr (fun a b ha _=>by
      by_cases h7:a=st.cs.length;·unfold clr;grind
      omega) (fun _ _=>rfl);refine Ae Q p ⟨_,_,_,rfl,_,rfl,oo,oo,?_⟩;obtain⟨wl,zl,d0,d1⟩:=Q.at p G
     have ah:ZIr O wl (st.M r k):=by
      have:clr (fun i=>st.M (xch st.cs.length r i)) st.cs.length k st.last st.cs.length k=st.M r k:=by unfold clr;grind
      grind
     refine⟨_,_,_,_,d0,d1,?_⟩;have C:∀b,b≠T.bE->b≠T.bS->H b=o2 b:=fun b h1 h2=>by grind
     have am:OwnSl H 3 pA pc (zs st.cs):=ow.keep fun b x hA N=>by
      rw[C b (fun e=>u.2.1 gz0) (fun e=>u.2.2 gz0)];exact N
     have W:(zs st.cs).length=st.cs.length:=by simp
     refine V8 (ty:=38) Oe Q.sep am (by simp) (y:=((k:J):Z)) rfl dc oo oo ?_;intro A' c' h' g' o' F s' az f;obtain⟨⟨x1,ar⟩,⟨x2,ae⟩,⟨x3,ai⟩⟩:=Q.own
     have t':=Q.keep s' F (fun kk x e ag=>by
      rcases ag with rfl|rfl|rfl;·exact(f _ _ e u.1).1
      ·exact(f _ _ e u.2.1).1
      ·exact(f _ _ e u.2.2).1);rw[W,ew];refine⟨⟨k+1,g',o',A',c',wl,oo,?_,B6 lg (B6 l3 (B6 l4 F)),?_⟩,?_⟩;·grind
     ·rw[aj,q];refine⟨t',gz0,⟨(f _ _ ar u.1).2,(f _ _ ae u.2.1).2,(f _ _ ai u.2.2).2⟩,fun kk x e h1 h2=>?_,Q8 _ _ _ _ F ah⟩;grind
     ·show c-((k+1:J):Z).toNat<c-((k:J):Z).toNat;omega
  ·have q:Ey T.rows k st=st:=by unfold Ey;grind
   refine⟨_,_,rfl,?_⟩;rw[ew];refine⟨⟨k+1,g2,o2,pA,pc,w,oo,gz0,lg,?_⟩,?_⟩;·grind
   ·show c-((k+1:J):Z).toNat<c-((k:J):Z).toNat;omega
 grind
end
section
set_option maxRecDepth 100000
variable {h:aI} {K:VP}
end
structure EV where
 x0:Z
 x1:Z
 x2:Z
 x3:Z
 x4:Z
 x5:Z
 w:QV
def EV.xs(e:EV):dF Z:=[e.x0,e.x1,e.x2,e.x3,e.x4,e.x5]
def EV.v(e:EV):cN:=.agg #[I e.x0,I e.x1,I e.x2,I e.x3,I e.x4,I e.x5,.bool e.w.s,.slice e.w.A e.w.n e.w.c,.bool e.w.s2,.slice e.w.A2 e.w.n2 e.w.c2]
instance:Enc EV:=⟨⟨fun e=>C1n e.x0 e.x1 e.x2 e.x3 e.x4 e.x5 e.w,10,fun _=>rfl,fun e v hv=>by simp [C1n] at hv;rcases hv with rfl|rfl|rfl|rfl|rfl|rfl|rfl|rfl|rfl|rfl<;>rfl⟩⟩
abbrev ENr:aI->EV->In->Prop:=fun h e t=>RQ h e.w (rv t.1)/\∀j,j<6->e.xs.getD j 0=t.2.getD j 0
section
variable {h:aI} {K:VP} {vars:Z}
variable {ts:dF In} {A:Option aL} {c:J}
end
section
variable {h:aI} {K:VP} {A B:Option aL} {n c n' c' m:J} {s s':Bool} {x y:Z}
def C05:RQ h ⟨false,none,0,0,false,none,0,0⟩ 0:=⟨ZI.zero,ZI.zero⟩
def A0u{z:Z}(i:ZI h s A n c z):RQ h ⟨s,A,n,c,false,none,0,0⟩ (z:Y):=⟨by assumption,by simpa using ZI.zero⟩
def K7(gl:Gtz h)(ix:ZI h s A n c x)(iy:ZI h s' B n' c' y)(hx:ZB m x)(hy:ZB m y)(hm:m<=6400000000)(hK:∀w h',h.le h'->RQ h' w (bY x y)->K w.v h'):aN prog 129 #[.agg #[.bool s,.slice A n c],.agg #[.bool s',.slice B n' c']] h K:=by refine(fnk func129 (cs:=[(2,[11],[],[.bool false]),(5,[],[(2,2),(3,2)],[.bool false,.slice none 0 0,.bool false,.slice none 0 0])]) (os:=[(4,[0,2,1,3,4,5]),(9,[0,1,3,4,2,5,6,7])]) (own:=[2,3,4,5])) ?_;refine⟨fun L Q=>Q=h/\((L=[.bool true]/\bY x y=0)\/(L=[.bool false]/\y≠0)),?_,?_⟩;{refine F6 iy ⟨_,rfl,B9 (fun e=>⟨rfl,.inl ⟨rfl,by simp_all⟩⟩) (fun e=>F6 ix ⟨_,rfl,rfl,?_⟩)⟩;by_cases O:x=0;{simp_all};grind};rintro t Q ⟨rfl,hL⟩;refine Br.of (fun e=>?_) (fun e=>?_);{rcases hL with⟨_,h0⟩|⟨h1,_⟩;{rw[h0]at hK;exact hK _ _ (B8 _) C05};grind};refine⟨fun l u=>∃s A n c s' B n' c' d b,l=[.bool s,.slice A n c,.bool s',.slice B n' c']/\Q.le u/\ZI u s A n c d/\ZI u s' B n' c' b/\0<b/\bY d b=bY x y/\ZB m d/\ZB m b,?_,?_⟩;{refine Cw iy ⟨_,rfl,B9 (fun e=>?_) (fun e=>?_)⟩;{have X:y<0:=gz0;refine Z8 ix ?_;intro V i1;refine⟨_,_,_,_,rfl,B8 _,?_⟩;refine Z8 iy ?_;intro T k;exact⟨_,_,_,_,rfl,B8 _,_,_,_,_,_,_,_,_,-x,-y,rfl,B8 _,i1,k,o,Rat.neg_divInt_neg x y,hx.neg,hy.neg⟩};·have f:0<y:=gz0;exact⟨_,_,_,_,_,_,_,_,x,y,rfl,B8 _,ix,iy,f,rfl,hx,hy⟩};rintro V A1 n1 c1 T A2 n2 c2 ac ⟨D,A1',S,G,M,A2',F,N,d,b,hl,i,i1,k,f,u,r,j⟩;obtain⟨rfl,⟨rfl,rfl,rfl⟩,rfl,rfl,rfl,rfl⟩:V=D/\(A1=A1'/\n1=S/\c1=G)/\T=M/\A2=A2'/\n2=F/\c2=N:=gz0;rw[<- u]at hK;refine O1 k ⟨_,rfl,B9 (fun W=>?_) (fun W=>?_)⟩;{rw[W,Kv]at hK;exact hK _ _ i (A0u i1)};refine Bp (gl.mono i) i1 k r j o ?_;intro A3 n3 c3 h3 p R;refine⟨_,_,_,_,rfl,?_⟩;generalize hqq:bY d b=q at *;have a:q.num=d/(Int.gcd d b:Z):=by{rw[<- hqq,Rat.num_divInt,dB f,Int.one_mul,Int.gcd_comm]};have g:(q.den:Z)=b/(Int.gcd d b:Z):=by{rw[<- hqq,Rat.den_divInt,iN o,Int.gcd_comm,Int.natCast_ediv,Int.natAbs_of_nonneg o]};have aa:0<Int.gcd d b:=Int.gcd_pos_of_ne_zero_right d o;have z:ZB m (Int.gcd d b:Z):=ZB.gcd o j;refine O1 R ⟨_,rfl,Br.not (B9 (fun O=>?_) (fun O=>?_))⟩;{rw[O]at a g;simp at a g;refine Y8 (q:=q) (i1.mono p) (k.mono p) a g ?_;intro w E;exact⟨_,_,_,_,_,_,_,_,rfl,hK _ _ (B6 i p) E⟩};·refine R3 (i1.mono p) R r z hm o ?_;intro s4 A4 n4 c4 h4 C i4;refine⟨_,_,_,_,rfl,C,?_⟩;refine R3 ((k.mono p).mono C) (R.mono C) j z hm o ?_;intro s5 A5 n5 c5 h5 H i5;refine⟨_,_,_,_,rfl,H,?_⟩;refine Y8 (q:=q) (i4.mono H) i5 (by rw[a,Int.tdiv_eq_ediv_of_dvd (Int.gcd_dvd_left d b)]) gz0 ?_;intro w E;exact⟨_,_,_,_,_,_,_,_,rfl,hK _ _ (B6 i (B6 p (B6 C H))) E⟩
end
def A3o(q:Y)(n:J):(q^n).num=q.num^n/\(q^n).den=q.den^n:=⟨Rat.num_pow q n,Rat.den_pow q n⟩
def ZB.pow{m:J}{x:Z}(h:ZB m x)(hm:1<=m)(n:J):ZB (m*n+1) (x^n):=by unfold ZB;rw[Int.natAbs_pow];exact B01 h hm n
def Sz.pow{m:J}{q:Y}(h:Sz m q)(hm:1<=m)(n:J):Sz (m*n+1) (q^n):=by obtain⟨a,b⟩:=A3o q n;refine⟨by rw[a];exact h.num.pow hm n,?_⟩;rw[b,Int.natCast_pow];exact h.den.pow hm n
section
variable {h:aI} {K:VP} {m:J} {a b:dF UInt8} {w:QV} {q:Y}
end
def pwZ(q:Y)(G e:J):Z:=q.num^e*(q.den:Z)^(G-e)
section
variable {h g o:aI} {K:VP} {A B:Option aL} {ts:dF In} {n c v cc:J} {x:J->Y}
def SumS.put{b:J}{e:aQ}{N:J}{M z:Z}(S:SumS h g b e N M z){b2:J}(hb2:h b2=none)(X:Obj):SumS (h.put b2 X) (g.put b2 X) b e N M z:=by
 obtain⟨PA,NA,l,i,nn,n,ps,ns,d,j,k,f,t,rfl,r,y,s,m,A,q,w,p⟩:=S
 have a:b2≠b:=by
  rintro rfl;rw[C3]at hb2;cases hb2
 rw[C1 _ _ a]at hb2
 have c:d b2=none:=by
  cases e1:d b2 with
  |none=>rfl
  |some u=>rw[f.le _ _ e1]at hb2;cases hb2
 exact⟨PA,NA,l,i,nn,n,ps,ns,d.put b2 X,j.put b2 X,Priv.put k c X,Priv.put f hb2 X,by rw[C1 _ _ a.symm];exact t,Heap.put_comm _ _ _ a.symm,r,y,s,m,A,q,w,p⟩
end
def Sep.grow{h g o h' g':aI}(s:Sep h g o)(s':Sep h' g' o)(l:g.le g'):h.le h':=fun k x e=>by
 cases ho:o k with
 |some y=>
  have:=s.own k y ho;rw[e]at this;cases this;exact s'.own k _ ho
 |none=>
  rw[s.rest k ho]at e;rw[s'.rest k ho];exact l k x e
def A6h{h:aI}{K:VP}{w:QV}{q:Y}(_:RQ h w q)(hK:K (.agg #[.bool w.s,.slice w.A w.n w.c]) h):aN prog 293 #[w.v] h K:=by refine(fnk func293 (own:=[1,2])) ?_;exact hK
abbrev exA(ts:dF In)(k i:J):Z:=(tm ts i).2.getD k 0
section
variable {h hp g o hp5:aI} {A:Option aL} {ts:dF In} {n k G D T p bs bp dn dc:J} {w:QV} {q:Y} {d:Z} {sc:J->Z} {ws:dF IV} {ds:Bool} {dA:Option aL} {Invv1:LP} {muv1:dF cN->aI->J}
abbrev C9j(ts:dF In)(n k bs:J)(q:Y)(d:Z)(sc:J->Z)(g:aI)(D:J)(Q:Bool->Option aL->J->J->aI->Prop):Prop:=∀(G:J),G<=D->(∀i,i<n->exA ts k i<=(G:Z))->∀hp' g' o' ws' ds' dA' dn' dc',g.le g'->Sep hp' g' o'->RowX o' bs ws'->ws'.length=n->Row ZIr g' ws' n (fun i=>sc i*pwZ q G (exA ts k i).toNat)->ZI g' ds' dA' dn' dc' (d*(q.den:Z)^G)->Q ds' dA' dn' dc' hp'
abbrev C9i(Invv1:LP)(muv1:dF cN->aI->J)(k:J)(ds:Bool)(dA:Option aL)(dn dc:J)(hp5:aI)(ds':Bool)(dA':Option aL)(dn' dc':J)(hp':aI):Prop:=Invv1 [I (C4 ((k:Z)+1)),.bool ds',.slice dA' dn' dc'] hp'/\muv1 [I (C4 ((k:Z)+1)),.bool ds',.slice dA' dn' dc'] hp'<muv1 [I (k:Z),.bool ds,.slice dA dn dc] hp5
end
section
set_option maxRecDepth 100000
variable {h:aI} {K:VP}
def tWh:SliceT prog 115 118 (Zv false none 0 0) 2 32:=⟨by kernel_rfl,by kernel_rfl,rfl,dc⟩
def B9r:prog.cellsOf 118=2/\(prog.info? 118).isSome=true:=⟨by kernel_rfl,by kernel_rfl⟩
end
end Go.Proofs.YteppbhimdjmabaaGreatDoor
namespace Go.Proofs.YteppbhimdjmabaaGreatDoor
set_option maxRecDepth 20000
def abR(x:Y):Y:=if x<0 then -x else x
def J3(x:Y):0<=abR x:=by unfold abR;split<;>grind
def Qc{x y:Y}:abR x<=y ↔ -y<=x/\x<=y:=by unfold abR;split<;>grind
def Me(x y:Y):abR (x+y)<=abR x+abR y:=by unfold abR;split<;>split<;>split<;>grind
def A99(x:Y):abR (-x)=abR x:=by unfold abR;split<;>split<;>grind
def A98(x y:Y):abR (x-y)<=abR x+abR y:=by unfold abR;split<;>split<;>split<;>grind
def C22(x y:Y):abR (x-y)=abR (y-x):=by unfold abR;split<;>split<;>grind
def Te{x:Y}(h:x≠0):0<abR x:=by unfold abR;split<;>grind
def O7(x y:Y):abR (x*y)=abR x*abR y:=by have key:∀x y:Y,0<=x->0<=y->abR (x*y)=x*y:=fun x y a b=>by{have:=aF a b;unfold abR;rw[iN gz0]};have d:∀x:Y,0<=x->abR x=x:=fun x a=>by{unfold abR;rw[iN gz0]};have c:∀x:Y,¬0<=x->abR x= -x:=fun x a=>by{unfold abR;rw[iP gz0]};by_cases a:0<=x<;>by_cases b:0<=y;{rw[key x y a b,d x a,d y b]};{rw[d x a,c y b,<- key x (-y) a gz0,show x * -y= -(x*y)from gz0,A99]};{rw[c x a,d y b,<- key (-x) y gz0 b,show -x*y= -(x*y)from gz0,A99]};·rw[c x a,c y b,<- key (-x) (-y) gz0 gz0,show -x * -y=x*y from gz0]
def V3{a b c d:Y}(h1:0<=a)(h2:a<=b)(h3:0<=c)(h4:c<=d):a*c<=b*d:=by have e:=aF (show 0<=b-a from gz0) (show 0<=d from gz0);have f:=aF h1 (show 0<=d-c from gz0);grind
def A9x{y C:Y}(hy:0<y)(hC:0<C):∃t,0<t/\t*C=y:=⟨y*C⁻¹,aK hy (Rat.inv_pos.2 hC),by rw[Rat.mul_assoc,Rat.inv_mul_cancel C gz0,Rat.mul_one]⟩
structure Nice (a b:Y) (f:Y->Y):Prop where
 bd:∃ M,0<=M/\∀ x,a<=x->x<=b->abR (f x)<=M
 li:∃ L,0<=L/\∀ x y,a<=x->x<=b->a<=y->y<=b->abR (f x-f y)<=L*abR (x-y)
section
variable {a b:Y} {f g:Y->Y}
def Nice.const(c:Y):Nice a b fun _=>c:=⟨⟨abR c,J3 _,fun _ _ _=>gz0⟩,⟨0,gz0,fun x y _ _ _ _=>by rw[show c-c=0 from gz0];unfold abR;grind⟩⟩
def A7p:Nice a b fun x=>x:=⟨⟨abR a+abR b,by have:=J3 a;have:=J3 b;grind,fun x c d=>by unfold abR;split<;>split<;>split<;>grind⟩,⟨1,gz0,fun x y _ _ _ _=>gz0⟩⟩
def Nice.add(hf:Nice a b f)(hg:Nice a b g):Nice a b fun x=>f x+g x:=by obtain⟨⟨M,r,m⟩,⟨L,q,n⟩⟩:=hf;obtain⟨⟨M',p,e⟩,⟨L',l,i⟩⟩:=hg;refine⟨⟨M+M',gz0,fun x d c=>?_⟩,⟨L+L',gz0,fun x y d c k j=>?_⟩⟩;{have:=Me (f x) (g x);have:=m x d c;have:=e x d c;grind};·have:=Me (f x-f y) (g x-g y);have:=n x y d c k j;have:=i x y d c k j;rw[show f x+g x-(f y+g y)=f x-f y+(g x-g y)from gz0];grind
def Nice.mul(hf:Nice a b f)(hg:Nice a b g):Nice a b fun x=>f x*g x:=by obtain⟨⟨M,p,q⟩,⟨L,r,s⟩⟩:=hf;obtain⟨⟨M',j,i⟩,⟨L',l,k⟩⟩:=hg;refine⟨⟨M*M',aF p j,fun x d c=>?_⟩,⟨M*L'+L*M',?_,fun x y d c n m=>?_⟩⟩;{rw[O7];exact V3 (J3 _) (q x d c) (J3 _) (i x d c)};{have:=aF p l;have:=aF r j;grind};·have e:=Me (f x*(g x-g y)) ((f x-f y)*g y);rw[O7,O7]at e;have u:=V3 (J3 _) (q x d c) (J3 _) (k x y d c n m);have t:=V3 (J3 _) (s x y d c n m) (J3 _) (i y n m);rw[show f x*g x-f y*g y=f x*(g x-g y)+(f x-f y)*g y from gz0];grind
end
inductive StCh (a b:Y):dF (Y->Y)->Prop
 | last {p:Y->Y} {δ:Y} (np:Nice a b p) (hδ:0<δ) (hp:∀ x,a<=x->x<=b->δ<=abR (p x)):StCh a b [p]
 | two {p q:Y->Y} (np:Nice a b p) (s:StCh a b [q]):StCh a b [p,q]
 | cons {p q r u:Y->Y} {l:dF (Y->Y)} {α β:Y} (np:Nice a b p) (nu:Nice a b u) (hα:0<α) (hβ:0<β) (h:∀ x,a<=x->x<=b->α*p x=u x*q x-β*r x) (s:StCh a b (q::r::l)):StCh a b (p::q::r::l)
def StCh.tail{a b:Y}{p q:Y->Y}{l:dF (Y->Y)}(s:StCh a b (p::q::l)):StCh a b (q::l):=by
 cases s with
 |two _ s=>exact s
 |cons _ _ _ _ _ s=>exact s
def StCh.nice{a b:Y}{p q:Y->Y}{l:dF (Y->Y)}(s:StCh a b (p::q::l)):Nice a b p:=by
 cases s with
 |two n _=>exact n
 |cons n _ _ _ _ _=>exact n
def StCh.apart{a b:Y}:∀(l:dF (Y->Y)) (p q:Y->Y),StCh a b (p::q::l)->∃δ,0<δ/\∀x,a<=x->x<=b->δ<=abR (p x)+abR (q x):=by
 intro l
 induction l with
 |nil=>
  intro p q s
  cases s with
  |two np s=>
   cases s with
   | @last _ δ nq hδ hp=>
    refine⟨δ,hδ,fun x d c=>?_⟩;have:=hp x d c;have:=J3 (p x);grind
 |cons r l ih=>
  intro p q s
  cases s with
  | @cons _ _ _ u _ α β np nu hα hβ h s=>
   obtain⟨δ,hδ,i⟩:=ih q r s;obtain⟨M,y,m⟩:=nu.bd;have g:0<β+M+α:=gz0;obtain⟨δ',hδ',eδ⟩:=A9x (aK hβ hδ) g;refine⟨δ',hδ',fun x d c=>?_⟩
   ·have A:β*r x=u x*q x-α*p x:=by have:=h x d c;grind
    have t:abR (β*r x)<=abR (u x*q x)+abR (α*p x):=by rw[A];exact A98 _ _
    have eβ:abR β=β:=by unfold abR;grind
    have eα:abR α=α:=by unfold abR;grind
    rw[O7,O7,O7,eβ,eα]at t;have E:=V3 (J3 _) (m x d c) (J3 (q x)) (by grind:abR (q x)<=abR (q x));have F:=V3 (by grind:(0:Y)<=β) (by grind:β<=β) (by grind:0<=δ) (i x d c);have B:=J3 (p x);have k:=J3 (q x);have C:=aF (show 0<=β+M from gz0) B;have D:=aF (show 0<=α from gz0) k;have j:β*δ<=(abR (p x)+abR (q x))*(β+M+α):=gz0;exact bC (by rw[eδ];exact j) g
def sgR(x:Y):Z:=if x<0 then -1 else if x=0 then 0 else 1
def R4{x:Y}:sgR x=1↔0<x:=by unfold sgR;split<;>(try split)<;>grind
def T8{x:Y}:sgR x= -1↔x<0:=by unfold sgR;split<;>(try split)<;>grind
def U9{x:Y}:sgR x=0↔x=0:=by unfold sgR;split<;>(try split)<;>grind
def J9(x:Y):sgR x=1\/sgR x= -1\/sgR x=0:=by unfold sgR;split<;>(try split)<;>grind
def Uy{x y t:Y}(h1:t<=abR x)(h2:abR (x-y)<t):sgR x=sgR y/\sgR x≠0:=by unfold abR at h1 h2;unfold sgR;split at h1<;>split at h2<;>constructor<;>(repeat' split)<;>grind
def chg:Z->dF Z->J
 |_,[]=>0
 |b,s::l=>if s=0 then chg b l else(if b= -s then 1 else 0)+chg s l
def Py{b s:Z}(h:s≠0)(l:dF Z):chg b (s::l)=(if b= -s then 1 else 0)+chg s l:=by rw[chg,iN h]
def B4r{p q r:Z}(hp:p≠0)(hr:r= -p)(hq:q=1\/q= -1\/q=0)(hp1:p=1\/p= -1)(l:dF Z):chg p (q::r::l)=1+chg r l:=by subst hr;rcases hq with rfl|rfl|rfl<;>rcases hp1 with rfl|rfl<;>simp[chg]
section
variable {a b:Y}
def Vx(l:dF (Y->Y))(x:Y):dF Z:=l.map fun p=>sgR (p x)
def StCh.const:∀(n:J) (t:dF (Y->Y)) (p:Y->Y),t.length<=n->StCh a b (p::t)->∃η,0<η/\∀x y,a<=x->x<=b->a<=y->y<=b->abR (x-y)<=η->sgR (p x)=sgR (p y)->sgR (p x)≠0->chg (sgR (p x)) (Vx t x)=chg (sgR (p y)) (Vx t y):=by
 intro n
 induction n with
 |zero=>
  intro t p E s;obtain rfl:t=[]:=aM o;exact⟨1,gz0,fun x y _ _ _ _ _ _ _=>rfl⟩
 |succ n ih=>
  intro t p E s
  cases s with
  |last _ _ _=>exact⟨1,gz0,fun x y _ _ _ _ _ _ _=>rfl⟩
  | @two _ q np s=>
   cases s with
   | @last _ δ nq hδ hp=>
    obtain⟨L,l0,O⟩:=nq.li;obtain⟨η,n0,hn⟩:=A9x hδ (show 0<L+1 from gz0);refine⟨η,n0,fun x y f g j i W k _=>?_⟩;have V:=O x y f g j i;have q2:=V3 l0 (by grind:L<=L) (J3 (x-y)) W;have:=(Uy (hp x f g) (show abR (q x-q y)<δ from gz0)).1;simp only[Vx,aU,cF,this,k]
  | @cons _ q r u l α β np nu hα hβ h s=>
   obtain⟨η1,e1,k1⟩:=ih (r::l) q (by simpa using E) s;obtain⟨η2,e2,k2⟩:=ih l r (by simp only[aW]at E;omega) s.tail;obtain⟨δ,hδ,hd⟩:=StCh.apart (r::l) p q (.cons np nu hα hβ h s);obtain⟨M,B,hM⟩:=nu.bd;obtain⟨L,S,O⟩:=s.nice.li;have aa:0<M+α:=gz0
   obtain⟨τ,hτ0,hτ⟩:∃τ,0<τ/\4*(τ*(M+α))=α*δ:=by
    obtain⟨τ,f,g⟩:=A9x (aK hα hδ) (show 0<4*(M+α)from gz0);exact⟨τ,f,gz0⟩
   obtain⟨ζ,hζ0,hζ⟩:=A9x hτ0 (show 0<L+1 from gz0)
   obtain⟨η,hη0,m1,m2,m3⟩:∃η:Y,0<η/\η<=η1/\η<=η2/\η<=ζ:=by
    by_cases c1:η1<=η2<;>by_cases c2:η1<=ζ<;>by_cases c3:η2<=ζ;all_goals first|exact⟨η1,e1,gz0,gz0,gz0⟩|exact⟨η2,e2,gz0,gz0,gz0⟩|exact⟨ζ,hζ0,gz0,gz0,gz0⟩
   refine⟨η,hη0,fun x y f g j i W k C=>?_⟩
   have A:abR (q x-q y)<τ:=by
    have V:=O x y f g j i;have q2:=V3 S (by grind:L<=L) (J3 (x-y)) (show abR (x-y)<=ζ from gz0);grind
   show chg (sgR (p x)) (sgR (q x)::sgR (r x)::Vx l x)=chg (sgR (p y)) (sgR (q y)::sgR (r y)::Vx l y);by_cases hc:τ<=abR (q x)
   ·obtain⟨D,H⟩:=Uy hc A;have:=k1 x y f g j i gz0 D H;rw[Py H,Py (s:=sgR (q y)) (by rw[<- D];exact H),<- k,<- D];rw[<- D]at this;simp only[Vx,aU]at this ⊢;omega
   ·have w:∀z,a<=z->z<=b->abR (q z)<2*τ->sgR (p z)≠0->sgR (r z)= -sgR (p z):=by
     intro z N F z3 z4;have d:=hd z N F;have e:=h z N F;have T:=V3 (J3 _) (hM z N F) (J3 (q z)) (show abR (q z)<=2*τ from gz0);rw[<- O7]at T;obtain⟨f2,f3⟩:=Qc.1 T
     have X:=V3 (show(0:Y)<=α from gz0) (by grind:α<=α) (show 0<=δ-2*τ by
      have V:=aF (show 0<=τ from gz0) B;by_cases hh:0<=δ-2*τ;·exact hh
      ·have:=aK hα (show 0<2*τ-δ from gz0);have:=aK hα hτ0;grind) (show δ-2*τ<=abR (p z)from gz0);have f5:=aK hα hτ0;have f6:=aF B (show 0<=τ from gz0);rcases J9 (p z)with c|c|c
     ·rw[c];have c1:=R4.1 c;have c2:abR (p z)=p z:=by unfold abR;grind
      rw[c2]at X;refine T8.2 ?_;have:β*r z<0:=gz0;by_cases R:r z<0;·exact R
      ·have:=aF (show 0<=β from gz0) (show 0<=r z from gz0);grind
     ·rw[c];have c1:=T8.1 c;have c2:abR (p z)= -p z:=by unfold abR;grind
      rw[c2]at X;refine R4.2 ?_;have:0<β*r z:=gz0;by_cases R:0<r z;·exact R
      ·have:=aF (show 0<=β from gz0) (show 0 <= -r z from gz0);grind
     ·exact absurd c z4
    have ox:=w x f g gz0 C
    have oy:=w y j i (by
     have:=Me (q x) (q y-q x);rw[C22]at A;rw[show q x+(q y-q x)=q y from gz0]at this;grind) (by rw[<- k];exact C);have m:sgR (p x)=1\/sgR (p x)= -1:=by have:=J9 (p x);omega
    rw[B4r C ox (J9 _) m,B4r (by rw[<- k];exact C) oy (J9 _) (by rw[<- k];exact m)];rw[k2 x y f g j i gz0 o o]
end
end Go.Proofs.YteppbhimdjmabaaGreatDoor
namespace Go.Proofs.YteppbhimdjmabaaGreatDoor
set_option maxRecDepth 20000
section
variable {a b:Y}
def Ry(p:Y->Y)(l:dF (Y->Y))(x:Y):Vx (p::l) x=sgR (p x)::Vx l x:=rfl
def A56{p q:Z}(hq:q≠0)(l:dF Z):chg 0 (p::q::l)=(if p= -q then 1 else 0)+chg q l:=by by_cases a:p=0;{subst a;rw[chg,iP rfl,Py hq]};·rw[Py a,iN o,Py hq];omega
def C68{x y z:Y}(hx:0<x)(hy:0<y)(hz:0<z):∃m:Y,0<m/\m<=x/\m<=y/\m<=z:=by grind
def Tay(a b:Y)(p q:Y->Y):Prop:=∃K c,0<=K/\0<c/\∀x y,a<=x->x<=b->a<=y->y<=b->abR (p y-p x-(y-x)*(c*q x))<=K*((y-x)*(y-x))
def cell{p q:Y->Y}{t:dF (Y->Y)}(s:StCh a b (p::q::t))(tay:Tay a b p q)(nq:Nice a b q):∃η,0<η/\∀x y,a<=x->x<y->y<=b->y-x<=η-> (sgR (p x)=sgR (p y)/\sgR (p x)≠0/\chg 0 (Vx (p::q::t) x)=chg 0 (Vx (p::q::t) y))\/∃(e:Z) (W:J),(e=1\/e= -1)/\chg 0 (Vx (p::q::t) x)=(if sgR (p x)= -e then 1 else 0)+W/\chg 0 (Vx (p::q::t) y)=(if sgR (p y)= -e then 1 else 0)+W/\sgR (p y-p x)=e:=by obtain⟨η1,e1,E⟩:=StCh.const (t.length+1) (q::t) p (by simp) s;obtain⟨η2,R,k2⟩:=StCh.const t.length t q (aJ _) s.tail;obtain⟨δ,hδ,F⟩:=StCh.apart t p q s;obtain⟨L,l,S⟩:=s.nice.li;obtain⟨L',g,A⟩:=nq.li;obtain⟨K,c,D,B,N⟩:=tay;obtain⟨ζ,X,hz⟩:=A9x (show 0<δ by exact hδ) (show 0<2*(L+L'+1)from gz0);obtain⟨ξ,m,V⟩:=A9x (aK B hδ) (show 0<2*(K+1)from gz0);obtain⟨μ,O,u1,u2,u3⟩:=C68 e1 R X;obtain⟨η,T,n1,n2,n3⟩:=C68 O m m;refine⟨η,T,fun x y i h2 k h4=>?_⟩;have d:x<=b:=gz0;have f:a<=y:=gz0;have u:abR (x-y)=y-x:=by{unfold abR;grind};by_cases hs:sgR (p x)=sgR (p y)/\sgR (p x)≠0;{refine .inl ⟨hs.1,hs.2,?_⟩;have:=E x y i d f k gz0 hs.1 hs.2;rw[Ry p,Ry p,Py hs.2,Py (s:=sgR (p y)) o,iN o,iN o,this]};·have small:abR (p x)<=abR (p x-p y):=by{unfold sgR at hs;unfold abR;(repeat' split at hs)<;>(repeat' split)<;>grind};have r:=S x y i d f k;have n:=A x y i d f k;rw[u]at r n;have f1:=V3 l (by grind:L<=L) (show 0<=y-x from gz0) (show y-x<=ζ from gz0);have f2:=V3 g (by grind:L'<=L') (show 0<=y-x from gz0) (show y-x<=ζ from gz0);have g1:=aF (show 0<=ζ from gz0) l;have g2:=aF (show 0<=ζ from gz0) g;have G:=F x i d;have big:δ<=2*abR (q x):=gz0;have j:abR (q x-q y)<δ/2:=gz0;obtain⟨z,C⟩:=Uy (x:=q x) (y:=q y) (t:=δ/2) gz0 j;have M:=k2 x y i d f k gz0 z C;refine .inr ⟨sgR (q x),chg (sgR (q x)) (Vx t x),by have:=J9 (q x);omega,?_,?_,?_⟩;{rw[Ry,Ry,A56 C]};{rw[Ry,Ry,A56 (q:=sgR (q y)) o,<- z,M,<- z]};·have H:=N x y i d f k;obtain⟨t1,t2⟩:=Qc.1 H;have v1:=V3 D (by grind:K<=K) (show 0<=(y-x)*(y-x) by exact aF gz0 gz0) (show(y-x)*(y-x)<=ξ*(y-x) by exact V3 gz0 gz0 gz0 gz0);have v2:=aK (show 0<y-x from gz0) m;have v3:=aF D (show 0<=(y-x)*ξ from gz0);have v4:=aK (show 0<y-x from gz0) (aK B hδ);have v5:=aK (show 0<y-x from gz0) B;have v6:2*(K*(ξ*(y-x)))<(y-x)*(c*δ):=by{have:(y-x)*(ξ*(2*(K+1)))=(y-x)*(c*δ):=by{rw[V]};grind};rcases J9 (q x)with c1|c1|c1;{rw[c1];have c2:=R4.1 c1;have c3:abR (q x)=q x:=by{unfold abR;grind};rw[c3]at big;have Q:=aF (show 0<=(y-x)*c from gz0) (show 0<=2*q x-δ from gz0);exact R4.2 gz0};{rw[c1];have c2:=T8.1 c1;have c3:abR (q x)= -q x:=by{unfold abR;grind};rw[c3]at big;have Q:=aF (show 0<=(y-x)*c from gz0) (show 0 <= -(2*q x)-δ from gz0);exact T8.2 gz0};omega
def C4x(x:Y):∃n:J,x<=(n:Y):=by refine⟨x.ceil.toNat,?_⟩;have a:=Rat.le_ceil (x:=x);by_cases h:0<=x.ceil;{have e:((x.ceil.toNat:J):Z)=x.ceil:=Int.toNat_of_nonneg h;have:((x.ceil.toNat:J):Y)=((x.ceil:Z):Y):=by{rw[<- e];rfl};grind};·have:((x.ceil:Z):Y)<=((0:Z):Y):=Rat.intCast_le_intCast.2 o;grind
def C52{η:Y}(hη:0<η){R:Y->Y->Prop}(r0:∀x,a<=x->x<=b->R x x)(r1:∀x y,a<=x->x<y->y<=b->y-x<=η->R x y)(r2:∀x y z,a<=x->x<y->y<z->z<=b->R x y->R y z->R x z)(hab:a<=b):R a b:=by
 have key:∀(n:J) x y,a<=x->x<=y->y<=b->y-x<=(n:Y)*η->R x y:=by
  intro n
  induction n with
  |zero=>
   grind
  |succ n ih=>
   intro x y c g d i;by_cases j:y-x<=η;·grind
   ·refine r2 x (y-η) y c gz0 gz0 d (ih x (y-η) c gz0 gz0 gz0) (r1 (y-η) y gz0 gz0 d gz0)
 obtain⟨t,t0,e⟩:=A9x (show 0<(1:Y)from gz0) hη;obtain⟨n,f⟩:=C4x ((b-a)*t);refine key n a b gz0 hab gz0 ?_;have:=V3 (show 0<=(b-a)*t from aF gz0 gz0) f (show 0<=η from gz0) (by grind:η<=η);rw[Rat.mul_assoc,e,Rat.mul_one]at this;exact this
def A37{p q:Y->Y}{t:dF (Y->Y)}(s:StCh a b (p::q::t))(tay:Tay a b p q)(nq:Nice a b q){σ:Z}(hσ:σ=1\/σ= -1)(mono:∀x y,a<=x->x<y->y<=b->0<=σ*sgR (p x)->0<σ*sgR (p y))(hab:a<=b): chg 0 (Vx (p::q::t) a)=chg 0 (Vx (p::q::t) b)+(if σ*sgR (p a)<0/\0<=σ*sgR (p b)then 1 else 0):=by obtain⟨η,hη,r⟩:=cell s tay nq;refine C52 (R:=fun x y=>chg 0 (Vx (p::q::t) x)=chg 0 (Vx (p::q::t) y)+(if σ*sgR (p x)<0/\0<=σ*sgR (p y)then 1 else 0)) hη (fun x _ _=>?_) (fun x y i g j l=>?_) (fun x y z i g j l D C=>?_) hab;{grind};{have n:=mono x y i g j;rcases r x y i g j l with⟨c1,c2,c3⟩|⟨e,W,w,B,A,m⟩;{grind};·rw[B,A];have c:=J9 (p x);have d:=J9 (p y);have f:e=1->(sgR (p x)=1->sgR (p y)=1)/\(sgR (p x)=0->sgR (p y)=1):=by{intro h;subst h;have:=R4.1 m;exact⟨fun h=>R4.2 (by have:=R4.1 h;grind),fun h=>R4.2 (by have:=U9.1 h;grind)⟩};have k:e= -1->(sgR (p x)= -1->sgR (p y)= -1)/\(sgR (p x)=0->sgR (p y)= -1):=by{intro h;subst h;have:=T8.1 m;exact⟨fun h=>T8.2 (by have:=T8.1 h;grind),fun h=>T8.2 (by have:=U9.1 h;grind)⟩};rcases hσ with rfl|rfl<;>rcases w with rfl|rfl<;>rcases c with c|c|c<;>rcases d with d|d|d<;>simp[c,d]at n f k ⊢ <;> omega};grind
end
end Go.Proofs.YteppbhimdjmabaaGreatDoor
namespace Go.Proofs.YteppbhimdjmabaaGreatDoor
set_option maxRecDepth 20000
def pe:dF Z->Y->Y
 | [],_=>0
 |c::w,x=>(c:Y)+x*pe w x
def pd:dF Z->Y->Y
 | [],_=>0
 |_::w,x=>pe w x+x*pd w x
def O4(a b:Y):∀w,Nice a b (pe w):=by
 intro w
 induction w with
 |nil=>exact Nice.const 0
 |cons c w ih=>exact(Nice.const (c:Y)).add (A7p.mul ih)
def C13(a b:Y):∀w,Nice a b (pd w):=by
 intro w
 induction w with
 |nil=>exact Nice.const 0
 |cons c w ih=>exact(O4 a b w).add (A7p.mul ih)
def C83(x:Y):abR x*abR x=x*x:=by unfold abR;split<;>grind
def Um(a b:Y):∀w,∃K,0<=K/\∀x y,a<=x->x<=b->a<=y->y<=b->abR (pe w y-pe w x-(y-x)*pd w x)<=K*((y-x)*(y-x)):=by
 intro w
 induction w with
 |nil=>exact⟨0,gz0,fun x y _ _ _ _=>by simp only[pe,pd];unfold abR;grind⟩
 |cons c w ih=>
  obtain⟨K,k,l⟩:=ih;obtain⟨L,r,p⟩:=(O4 a b w).li;obtain⟨B,b0,m⟩:=(A7p (a:=a) (b:=b)).bd;refine⟨B*K+L,by have:=aF b0 k;grind,fun x y g f j i=>?_⟩
  have e:pe (c::w) y-pe (c::w) x-(y-x)*pd (c::w) x=x*(pe w y-pe w x-(y-x)*pd w x)+(y-x)*(pe w y-pe w x):=by
   simp only[pe,pd];grind
  have q:=Me (x*(pe w y-pe w x-(y-x)*pd w x)) ((y-x)*(pe w y-pe w x));rw[O7,O7]at q;have s:=V3 (J3 _) (m x g f) (J3 _) (l x y g f j i);have u:=V3 (J3 (y-x)) (by grind:abR (y-x)<=abR (y-x)) (J3 _) (p y x j i g f);have n:=C83 (y-x);rw[e];generalize (y-x)*(y-x)=D at *;generalize abR (y-x)=d at *;generalize abR (pe w y-pe w x)=F at *;generalize abR x*abR (pe w y-pe w x-(y-x)*pd w x)=E at *;have t:d*(L*d)=L*D:=by rw[<- n];grind
  grind
end Go.Proofs.YteppbhimdjmabaaGreatDoor
namespace Go.Proofs.YteppbhimdjmabaaGreatDoor
set_option maxRecDepth 20000
section
variable {a b:Y}
def TyR(a b:Y)(p d:Y->Y):Prop:=∃K,0<=K/\∀x y,a<=x->x<=b->a<=y->y<=b->abR (p y-p x-(y-x)*d x)<=K*((y-x)*(y-x))
def C6j{p d:Y->Y}{g x y:Y}(t:TyR a b p d)(hd:∀z,a<=z->z<=b->g<=d z)(hx:a<=x)(hxy:x<=y)(hy:y<=b):g*(y-x)<=p y-p x:=by obtain⟨K,i,j⟩:=t;have key:∀ε,0<ε->(g-ε)*(y-x)<=p y-p x:=by{intro ε hε;obtain⟨η,k,l⟩:=A9x hε (show 0<K+1 from gz0);refine C52 (a:=x) (b:=y) (R:=fun x y=>(g-ε)*(y-x)<=p y-p x) k (fun z _ _=>gz0) (fun u v s n D f=>?_) (fun u v w _ _ _ _ q E=>gz0) hxy;obtain⟨r,_⟩:=Qc.1 (j u v gz0 gz0 gz0 gz0);have G:=aF (show 0<=v-u from gz0) (show 0<=d u-g by have:=hd u gz0 gz0;grind);have A:=V3 i (by grind:K<=K) (aF (show 0<=v-u from gz0) (show 0<=v-u from gz0)) (V3 (by grind:0<=v-u) f (show 0<=v-u from gz0) (by grind:v-u<=v-u));have C:K*(η*(v-u))=(v-u)*ε-η*(v-u):=by{have:(η*(K+1))*(v-u)=ε*(v-u):=by{rw[l]};grind};have B:=aF (show 0<=η from gz0) (show 0<=v-u from gz0);grind};by_cases m:g*(y-x)<=p y-p x;{exact m};·exfalso;obtain⟨ε,c,F⟩:=A9x (show 0<g*(y-x)-(p y-p x)from gz0) (show 0<y-x+1 from gz0);have:=key ε c;grind
def A80{c:Y->Y}{δ:Y}(n:Nice a b c)(hδ:0<δ)(hc:∀x,a<=x->x<=b->δ<=abR (c x)){x y:Y}(h1:a<=x)(h2:x<=y)(h3:y<=b):sgR (c x)=sgR (c y):=by obtain⟨L,f,k⟩:=n.li;obtain⟨η,j,s⟩:=A9x hδ (show 0<L+1 from gz0);refine C52 (a:=x) (b:=y) (R:=fun x y=>sgR (c x)=sgR (c y)) j (fun _ _ _=>rfl) (fun u v p m q e=>?_) (fun _ _ _ _ _ _ _ g d=>g.trans d) h2;refine(Uy (hc u gz0 gz0) ?_).1;have i:=k u v gz0 gz0 gz0 gz0;have l:abR (u-v)=v-u:=by{unfold abR;grind};rw[l]at i;have r:=V3 f (by grind:L<=L) (show 0<=v-u from gz0) e;grind
def Ix(x y:Y):sgR (x*y)=sgR x*sgR y:=by rcases J9 x with h|h|h<;>rcases J9 y with k|k|k<;>rw[h,k];{exact R4.2 (aK (R4.1 h) (R4.1 k))};{have:=aK (R4.1 h) (show 0 < -y by have:=T8.1 k;grind);exact T8.2 gz0};{rw[U9.1 k,bL];rfl};{have:=aK (show 0 < -x by have:=T8.1 h;grind) (R4.1 k);exact T8.2 gz0};{have:=aK (show 0 < -x by have:=T8.1 h;grind) (show 0 < -y by have:=T8.1 k;grind);exact R4.2 gz0};{rw[U9.1 k,bL];rfl};{rw[U9.1 h,aZ];rfl};{rw[U9.1 h,aZ];rfl};·rw[U9.1 h,aZ];rfl
end
end Go.Proofs.YteppbhimdjmabaaGreatDoor
namespace Go.Proofs.YteppbhimdjmabaaGreatDoor
set_option maxRecDepth 20000
def Rx:dF Z->dF Z->dF Z
 | [],b=>b
 |a,[]=>a
 |c::a,d::b=>(c+d)::Rx a b
def J8(k:Z)(a:dF Z):dF Z:=a.map (k * ·)
def Lh:dF Z->dF Z->dF Z
 | [],_=>[]
 |c::a,b=>Rx (J8 c b) (0::Lh a b)
abbrev cf(w:dF Z)(i:J):Z:=w.getD i 0
def Jd(a:dF Z):∀b x,pe (Rx a b) x=pe a x+pe b x:=by
 induction a with
 |nil=>intro b x;simp only[Rx,pe];grind
 |cons c a ih=>
  intro b x
  cases b with
  |nil=>simp only[Rx,pe];grind
  |cons d b=>simp only[Rx,pe,ih,bN];grind
def F4(k:Z)(a:dF Z)(x:Y):pe (J8 k a) x=(k:Y)*pe a x:=by
 induction a with
 |nil=>simp only[J8,cF,pe];grind
 |cons c a ih=>
  simp only[J8,aU,pe,aC]at ih ⊢;grind
def Q5(a:dF Z):∀b x,pe (Lh a b) x=pe a x*pe b x:=by
 induction a with
 |nil=>intro b x;simp only[Lh,pe];grind
 |cons c a ih=>
  intro b x;have e:((0:Z):Y)=0:=rfl;simp only[Lh,Jd,F4,pe,ih,e];grind
def A7e(a:dF Z):∀b i,cf (Rx a b) i=cf a i+cf b i:=by
 induction a with
 |nil=>intro b i;simp[Rx,cf]
 |cons c a ih=>
  intro b i
  cases b with
  |nil=>simp[Rx,cf]
  |cons d b=>
   cases i with
   |zero=>rfl
   |succ i=>simpa[Rx,cf]using ih b i
def Bh(k:Z)(a:dF Z)(i:J):cf (J8 k a) i=k*cf a i:=by simp only[cf,J8,aP,List.getElem?_map];grind
def C12:∀w:dF Z,(∀x,pe w x=0)->∀i,cf w i=0:=by
 intro w
 induction w with
 |nil=>grind
 |cons c w ih=>
  intro h i;have f:=h 0;simp only[pe,aZ,aR]at f
  have j:c=0:=by
   simp_all
  subst j;have e:((0:Z):Y)=0:=rfl
  have d:∀x,x≠0->pe w x=0:=fun x y=>by
   have:=h x;simp only[pe,e,Rat.zero_add]at this;grind
  have r:pe w 0=0:=by
   by_cases a:pe w 0=0;·exact a
   ·exfalso;obtain⟨L,b,k⟩:=(O4 0 1 w).li;obtain⟨t,t0,s⟩:=A9x (Te a) (show 0<L+1 from gz0);obtain⟨m,p,g,n,_⟩:=C68 t0 (show(0:Y)<1 from gz0) t0;have q:=k 0 m gz0 gz0 gz0 gz0;rw[d m gz0]at q;have l:abR (0-m)=m:=by unfold abR;grind
    have z:=V3 b (by grind:L<=L) (show 0<=m from gz0) g;grind
  have u:∀x,pe w x=0:=fun x=>by
   grind
  cases i with
  |zero=>simp[cf]
  |succ i=>simp_all
def Zh{u v:dF Z}(h:∀x,pe u x=pe v x)(i:J):cf u i=cf v i:=by have:=C12 (Rx u (J8 (-1) v)) (fun x=>by have e:((-1:Z):Y)= -1:=rfl;rw[Jd,F4,h,e];grind) i;rw[A7e,Bh]at this;omega
def Nz(w:dF Z):Prop:=∀h:w≠[],w.getLast h≠0
def Nz.ext{u v:dF Z}(hu:Nz u)(hv:Nz v)(h:∀x,pe u x=pe v x):u=v:=by have key:∀u v:dF Z,Nz u->(∀i,cf u i=cf v i)->u.length<=v.length:=by{intro u v hu h;by_cases e:u.length<=v.length;{exact e};·exfalso;have a:u≠[]:=gz0;have d:=h (u.length-1);have c:cf v (u.length-1)=0:=gz0;have j:cf u (u.length-1)=u.getLast a:=by{grind};exact hu a o};have b:=Zh h;have g:=key u v hu b;have f:=key v u hv fun i=>(b i).symm;refine cL o fun i d c=>?_;have:=b i;grind
def Nd(p:Z)(w:dF Z):Prop:=∃i,¬p∣cf w i
def C4w{p:Z}(hp:∀a b:Z,p∣a*b->p∣a\/p∣b):∀(n:J) (a b u:dF Z),a.length+b.length<=n->(∀x,pe u x=pe a x*pe b x)->Nd p a->Nd p b->Nd p u:=by
 intro n
 induction n with
 |zero=>
  rintro a b u h _ ⟨i,l⟩ _;simp_all
 |succ n ih=>
  rintro a b u hl h ⟨i,l⟩ ⟨j,r⟩
  cases a with
  |nil=>simp_all
  |cons c a=>
   cases b with
   |nil=>simp_all
   |cons d b=>
    by_cases s:p∣c
    ·have q:Nd p a:=by
      cases i with
      |zero=>simp_all
      |succ i=>exact⟨i,by assumption⟩
     obtain⟨k,g⟩:=ih a (d::b) (Lh a (d::b)) gz0 (fun x=>Q5 _ _ x) q ⟨j,r⟩
     have e:=Zh (u:=u) (v:=Rx (J8 c (d::b)) (0::Lh a (d::b))) (fun x=>by
      have e:((0:Z):Y)=0:=rfl;rw[h,Jd,F4];simp only[pe,Q5,e];grind) (k+1);rw[A7e,Bh]at e;refine⟨k+1,fun f=>g ?_⟩;rw[e]at f;exact(Int.dvd_add_right (bK s)).1 f
    ·by_cases m:p∣d
     ·have t:Nd p b:=by
       cases j with
       |zero=>simp_all
       |succ j=>exact⟨j,by assumption⟩
      obtain⟨k,g⟩:=ih (c::a) b (Lh (c::a) b) gz0 (fun x=>Q5 _ _ x) ⟨i,l⟩ t
      have e:=Zh (u:=u) (v:=Rx (J8 d (c::a)) (0::Lh (c::a) b)) (fun x=>by
       have e:((0:Z):Y)=0:=rfl;rw[h,Jd,F4];simp only[pe,Q5,e];grind) (k+1);rw[A7e,Bh]at e;refine⟨k+1,fun f=>g ?_⟩;rw[e]at f;exact(Int.dvd_add_right (bK m)).1 f
     ·have e:=Zh (u:=u) (v:=Lh (c::a) (d::b)) (fun x=>by rw[h,Q5]) 0;have w:cf (Lh (c::a) (d::b)) 0=c*d:=by simp[Lh,J8,Rx,cf]
      refine⟨0,fun f=>?_⟩;grind
def C2a(w:dF Z):Prop:=∀k:Z,(∀i,k∣cf w i)->k=1\/k= -1
def B3o:∀n:J,2<=n->∃p:J,2<=p/\p∣n/\∀a b:Z,(p:Z)∣a*b->(p:Z)∣a\/(p:Z)∣b:=by
 intro n
 induction n using Nat.strongRecOn with
 |_ n ih=>
  intro u;by_cases f:∃m,2<=m/\m<n/\m∣n
  ·obtain⟨m,q,c,r⟩:=f;obtain⟨p,i,l,g⟩:=ih m c q;exact⟨p,i,Nat.dvd_trans l r,g⟩
  ·refine⟨n,u,Nat.dvd_refl n,fun a b h=>?_⟩
   have j:n∣a.natAbs*b.natAbs:=by
    have:=Int.natAbs_dvd_natAbs.2 h;rwa [bZ,bG]at this
   have d:bH n a.natAbs∣n:=Nat.gcd_dvd_left _ _;have s:0<bH n a.natAbs:=Nat.gcd_pos_of_pos_left _ o;have t:bH n a.natAbs<=n:=Nat.le_of_dvd o d;by_cases e:bH n a.natAbs=n
   ·left;refine Int.natAbs_dvd_natAbs.1 ?_;rw[bZ,<- e];exact Nat.gcd_dvd_right _ _
   ·right
    have k:bH n a.natAbs=1:=by
     by_cases c:2<=bH n a.natAbs;·exact absurd ⟨_,c,o,d⟩ f
     ·omega
    refine Int.natAbs_dvd_natAbs.1 ?_;exact Nat.Coprime.dvd_of_dvd_mul_left k j
def B7l{k:Z}(hk:k≠0){e:dF Z}(h:∀i,k∣cf e i):∃f,e=J8 k f:=by refine⟨e.map (· / k),cL (by simp[J8]) fun i b c=>?_⟩;have:=h i;simp only[J8,List.map_map,List.getElem_map,Function.comp];have a:cf e i=e[i]:=gz0;rw[a]at this;exact(Int.mul_ediv_cancel' this).symm
def C7s{g:dF Z}(hg:C2a g):∀(n:J) (N:Z) (w e:dF Z),N.natAbs<=n->N≠0->(∀x,(N:Y)*pe w x=pe e x*pe g x)->∃f,∀x,pe w x=pe f x*pe g x:=by
 intro n
 induction n with
 |zero=>omega
 |succ n ih=>
  intro N w e r u h;by_cases t:N.natAbs=1
  ·refine⟨J8 N e,fun x=>?_⟩;rw[F4]
   have y:(N:Y)*(N:Y)=1:=by
    rw[<- aC];have:N*N=1:=gz0;simp_all
   grind
  ·obtain⟨p,d,pd,l⟩:=B3o N.natAbs o;have b:(p:Z)∣N:=Int.natAbs_dvd_natAbs.1 (by assumption)
   have s:Nd p g:=by
    by_cases a:Nd p g;·exact a
    ·exfalso
     have:=hg p fun i=>by
      by_cases q:(p:Z)∣cf g i;·exact q
      ·exact absurd ⟨i,q⟩ a
     omega
   have ne:¬Nd p e:=fun a=>by
    obtain⟨i,c⟩:=C4w l _ e g (J8 N w) (aJ _) (fun x=>by rw[F4,h]) a s;rw[Bh]at c;exact c (bK b)
   obtain⟨f,rfl⟩:=B7l (k:=p) o (e:=e) fun i=>by
    by_cases q:(p:Z)∣cf e i;·exact q
    ·exact absurd ⟨i,q⟩ ne
   obtain⟨M,rfl⟩:=b;have j:M≠0:=gz0;refine ih M w f ?_ j fun x=>?_
   ·rw[bG,bZ]at r;have:2*M.natAbs<=p*M.natAbs:=aH _ d;omega
   ·have:=h x;rw[F4,aC]at this
    have m:(((p:J):Z):Y)≠0:=by
     simp_all
    grind
end Go.Proofs.YteppbhimdjmabaaGreatDoor
namespace Go.Proofs.YteppbhimdjmabaaGreatDoor
set_option maxRecDepth 20000
inductive PCh:dF (dF Z)->Prop
 | one (v:dF Z):PCh [v]
 | two {p q e:dF Z} {N:Z} (hN:N≠0) (h:∀ x,(N:Y)*pe p x=pe e x*pe q x):PCh [p,q]
 | cons {p q r u:dF Z} {l:dF (dF Z)} {α β:Z} (hα:0<α) (hβ:0<β) (h:∀ x,(α:Y)*pe p x=pe u x*pe q x-(β:Y)*pe r x) (s:PCh (q::r::l)):PCh (p::q::r::l)
def Dv(d p:dF Z):Prop:=∃(N:Z) (e:dF Z),N≠0/\∀x,(N:Y)*pe p x=pe e x*pe d x
def Dv.refl(d:dF Z):Dv d d:=⟨1,[1],dc,fun x=>by have e:((1:Z):Y)=1:=rfl;simp only[pe,e];grind⟩
def F5{N:Z}(h:N≠0):(N:Y)≠0:=fun q=>h (by have a:((0:Z):Y)=0:=rfl;rw[<- a]at q;exact Rat.intCast_inj.1 q)
def K8{N:Z}(h:0<N):(0:Y)<(N:Y):=by have a:((0:Z):Y)=0:=rfl;rw[<- a];exact Rat.intCast_lt_intCast.2 h
def Dv.trans{a b c:dF Z}(h1:Dv a b)(h2:Dv b c):Dv a c:=by obtain⟨N,e,i,h⟩:=h1;obtain⟨M,f,j,k⟩:=h2;refine⟨N*M,Lh f e,fun z=>by rcases Int.mul_eq_zero.1 z with z|z<;>contradiction,fun x=>?_⟩;rw[Q5,aC];have g:=h x;have d:=k x;have:(N:Y)*((M:Y)*pe c x)=pe f x*((N:Y)*pe b x):=by{rw[d];grind};rw[g]at this;grind
def Ee:dF Z->dF (dF Z)->dF Z
 |p,[]=>p
 |_,q::t=>Ee q t
def PCh.dvd:∀(t:dF (dF Z)) (p:dF Z),PCh (p::t)->Dv (Ee p t) p/\∀q t',t=q::t'->Dv (Ee p t) q:=by
 intro t
 induction t with
 |nil=>intro p _;exact⟨Dv.refl _,fun q t' h=>by cases h⟩
 |cons q t ih=>
  intro p s
  cases s with
  | @two _ _ e N hN h=>exact⟨⟨N,e,hN,h⟩,fun n t' h=>by cases h;exact Dv.refl _⟩
  | @cons _ _ r u l α β hα hβ h s=>
   obtain⟨a,c⟩:=ih q s;have g:=c r l rfl;refine⟨?_,fun n t' h=>by cases h;exact a⟩;obtain⟨N,e,y,b⟩:=a;obtain⟨M,f,w,d⟩:=g;refine⟨α*(N*M),Rx (J8 M (Lh u e)) (J8 (-(β*N)) f),fun z=>?_,fun x=>?_⟩
   ·rcases Int.mul_eq_zero.1 z with z|z;·omega
    ·rcases Int.mul_eq_zero.1 z with z|z<;>contradiction
   ·show _=_*pe (Ee q (r::l)) x;have j:=h x;have k:=b x;have m:=d x;rw[Jd,F4,F4,Q5,aC,aC,bM,aC];generalize pe (Ee q (r::l)) x=D at *;have i:(N:Y)*(M:Y)*((α:Y)*pe p x)=(M:Y)*pe u x*((N:Y)*pe q x)-(N:Y)*(β:Y)*((M:Y)*pe r x):=by rw[j];grind
    rw[k,m]at i;grind
section
variable {a b:Y}
def Aw(a b:Y)(f:Y->Y):Prop:=∃δ,0<δ/\∀x,a<=x->x<=b->δ<=abR (f x)
def Aw.factor{f e d:Y->Y}{N:Y}(hf:Aw a b f)(ne:Nice a b e)(hN:N≠0)(h:∀x,N*f x=e x*d x):Aw a b d:=by obtain⟨δ,l,k⟩:=hf;obtain⟨M,p,m⟩:=ne.bd;have g:=Te hN;obtain⟨t,t0,r⟩:=A9x (aK g l) (show 0<M+1 from gz0);refine⟨t,t0,fun x j i=>?_⟩;have q:=V3 (show 0<=abR N from gz0) (by grind:abR N<=abR N) (show 0<=δ from gz0) (k x j i);have u:abR N*abR (f x)=abR (e x)*abR (d x):=by{rw[<- O7,<- O7,h]};have s:=V3 (J3 (e x)) (m x j i) (J3 (d x)) (by grind:abR (d x)<=abR (d x));have n:=J3 (d x);refine bC (c:=M+1) ?_ gz0;grind
def PCh.st:∀(t:dF (dF Z)) (p:dF Z),PCh (p::t)->Aw a b (pe (Ee p t))->StCh a b (pe p::t.map pe):=by
 intro t
 induction t with
 |nil=>
  rintro p _ ⟨δ,d,c⟩;exact .last (O4 _ _ _) d c
 |cons q t ih=>
  intro p s e
  cases s with
  |two hN h=>
   obtain⟨δ,d,c⟩:=e;exact .two (O4 _ _ _) (.last (O4 _ _ _) d c)
  | @cons _ _ r u l α β hα hβ h s=>
   exact .cons (O4 _ _ _) (O4 _ _ u) (K8 hα) (K8 hβ) (fun x _ _=>h x) (ih q s e)
structure Sq (w:dF Z) (S:dF Z) (t:dF (dF Z)):Prop where
 ch:PCh (S::t)
 sq:∃ (G:dF Z) (c N:Z) (e:dF Z),0<c/\N≠0/\(∀ x,pe w x=(c:Y)*(pe S x*pe G x))/\∀ x,(N:Y)*pd w x=pe e x*pe G x
 der:∀ Q t',t=Q::t'->∃ c:Z,0<c/\∀ x,pd S x=(c:Y)*pe Q x
 con:t=[]->∃ s:Y,∀ x,pe S x=s
def Je{w S G:dF Z}{c:Y}(h:∀x,pe w x=c*(pe S x*pe G x))(x:Y):pd w x=c*(pd S x*pe G x+pe S x*pd G x):=by have t1:=Um (x-1) (x+1) w;have n:=Um (x-1) (x+1) S;have p:=Um (x-1) (x+1) G;obtain⟨K1,V,D⟩:=t1;obtain⟨K2,N,q⟩:=n;obtain⟨K3,B,L⟩:=p;obtain⟨L2,R,g⟩:=(O4 (x-1) (x+1) S).li;obtain⟨L3,E,e⟩:=(O4 (x-1) (x+1) G).li;obtain⟨B2,H,f⟩:=(O4 (x-1) (x+1) S).bd;obtain⟨B3,z,i⟩:=(O4 (x-1) (x+1) G).bd;by_cases j:pd w x-c*(pd S x*pe G x+pe S x*pd G x)=0;{grind};·exfalso;have nn:0<=abR c*(K2*B3+B2*K3+L2*L3):=aF (J3 _) (by have:=aF N z;have:=aF H B;have:=aF R E;grind);obtain⟨s,l,hs⟩:=A9x (Te j) (show 0<K1+abR c*(K2*B3+B2*K3+L2*L3)+1 from gz0);obtain⟨r,C,t,r2,_⟩:=C68 l (show(0:Y)<1 from gz0) l;have u:x+r-x=r:=gz0;have F:=D x (x+r) gz0 gz0 gz0 gz0;have k:=q x (x+r) gz0 gz0 gz0 gz0;have m:=L x (x+r) gz0 gz0 gz0 gz0;have b:=g (x+r) x gz0 gz0 gz0 gz0;have d:=e (x+r) x gz0 gz0 gz0 gz0;have T:=f x gz0 gz0;have y:=i x gz0 gz0;rw[u]at F k m b d;have a:abR r=r:=by{unfold abR;grind};rw[a]at b d;have O:r*(pd w x-c*(pd S x*pe G x+pe S x*pd G x))=c*((pe S (x+r)-pe S x-r*pd S x)*pe G x+pe S x*(pe G (x+r)-pe G x-r*pd G x)+(pe S (x+r)-pe S x)*(pe G (x+r)-pe G x))-(pe w (x+r)-pe w x-r*pd w x):=by{rw[h (x+r),h x];grind};generalize pe S (x+r)-pe S x-r*pd S x=E2 at *;generalize pe G (x+r)-pe G x-r*pd G x=E3 at *;generalize pe w (x+r)-pe w x-r*pd w x=E1 at *;generalize pe S (x+r)-pe S x=D2 at *;generalize pe G (x+r)-pe G x=D3 at *;generalize pd w x-c*(pd S x*pe G x+pe S x*pd G x)=zq9 at *;generalize pe S x=S0 at *;generalize pe G x=G0 at *;have A:=A98 (c*(E2*G0+S0*E3+D2*D3)) E1;rw[<- O,O7,O7,a]at A;have M:=Me (E2*G0+S0*E3) (D2*D3);have Q:=Me (E2*G0) (S0*E3);rw[O7 E2,O7 S0]at Q;rw[O7 D2]at M;have p1:=V3 (J3 E2) k (J3 G0) y;have p2:=V3 (J3 S0) T (J3 E3) m;have W:=V3 (J3 D2) b (J3 D3) d;have p4:=V3 (J3 c) (by grind:abR c<=abR c) (J3 (E2*G0+S0*E3+D2*D3)) (show abR (E2*G0+S0*E3+D2*D3)<=(K2*B3+B2*K3+L2*L3)*(r*r)from gz0);have X:r*abR zq9<=(K1+abR c*(K2*B3+B2*K3+L2*L3))*(r*r):=gz0;have p6:abR zq9<=(K1+abR c*(K2*B3+B2*K3+L2*L3))*r:=by{refine bC (c:=r) ?_ C;grind};have p7:=V3 (show 0<=K1+abR c*(K2*B3+B2*K3+L2*L3)from gz0) (by grind:K1+abR c*(K2*B3+B2*K3+L2*L3)<=K1+abR c*(K2*B3+B2*K3+L2*L3)) (show 0<=r from gz0) t;have p8:=Te j;grind
end
end Go.Proofs.YteppbhimdjmabaaGreatDoor
namespace Go.Proofs.YteppbhimdjmabaaGreatDoor
set_option maxRecDepth 20000
section
variable {a b:Y} {w S:dF Z} {t:dF (dF Z)}
def Vs(l:dF (dF Z))(x:Y):dF Z:=l.map fun w=>sgR (pe w x)
def B57(l:dF (dF Z))(x:Y):Vx (l.map pe) x=Vs l x:=by simp[Vx,Vs,List.map_map,Function.comp]
def Sq.mulw(q:Sq w S t):∃(G:dF Z) (c N:Z) (e:dF Z),0<c/\N≠0/\(∀x,pe w x=(c:Y)*(pe S x*pe G x))/\(∀x,(N:Y)*pd w x=pe e x*pe G x)/\∀x,pd w x=(c:Y)*(pd S x*pe G x+pe S x*pd G x):=by obtain⟨G,c,N,e,b,d,a,f⟩:=q.sq;exact⟨G,c,N,e,b,d,a,f,fun x=>Je a x⟩
def C37{c:Z}(h:0<c):sgR (c:Y)=1:=R4.2 (K8 h)
def Xc(q:Sq w S t)(hab:a<=b)(hw:Aw a b (pe w)):chg 0 (Vs (S::t) a)=chg 0 (Vs (S::t) b):=by
 obtain⟨G,c,N,e,n,l,d,O⟩:=q.sq;have r:Aw a b (pe S):=hw.factor (N:=1) (e:=fun x=>(c:Y)*pe G x) ((Nice.const _).mul (O4 _ _ _)) gz0 fun x=>by rw[d];grind
 cases t with
 |nil=>
  have z:∀s:Z,chg 0 [s]=0:=fun s=>by
   by_cases h:s=0;·simp[chg,h]
   ·rw[Py h,iN o];rfl
  simp only[Vs,aU,cF,z]
 |cons Q t'=>
  obtain⟨L,_⟩:=q.ch.dvd;obtain⟨M,f,H,E⟩:=L;have u:Aw a b (pe (Ee S (Q::t'))):=r.factor (O4 _ _ _) (F5 H) E;have st:=PCh.st _ _ q.ch u;obtain⟨k,B,A⟩:=q.der Q t' rfl;obtain⟨K,K0,C⟩:=Um a b S;obtain⟨δ,F,j⟩:=r;have cs:∀x y,a<=x->x<=y->y<=b->sgR (pe S x)=sgR (pe S y):=fun x y n l d=>A80 (O4 a b S) F j n l d
  have nz:sgR (pe S a)≠0:=fun z=>by
   have:=j a gz0 hab;rw[U9.1 z]at this;unfold abR at this;grind
  have hs:=J9 (pe S a)
  have:=A37 st ⟨K,(k:Y),K0,K8 B,fun x y p m i D=>by rw[<- A];exact C x y p m i D⟩ (O4 _ _ _) (σ:=sgR (pe S a)) o (fun x y p m i _=>by
   rw[<- cs a y gz0 gz0 i];rcases hs with z|z|z<;>rw[z]<;>first|decide|exact absurd z nz) hab
  rw[iN (fun z=>by
   have:=z.1;rcases hs with y|y|y<;>rw[y]at this<;>omega)]at this;have g:=B57 (S::Q::t');simp only[aU]at g this;rw[g,g]at this;omega
def B4k(q:Sq w S t)(hab:a<b){σ:Z}(hσ:σ=1\/σ= -1){δ:Y}(hδ:0<δ)(hd:∀z,a<=z->z<=b->δ<=(σ:Y)*pd w z):
 chg 0 (Vs (S::t) a)=chg 0 (Vs (S::t) b)+(if σ*sgR (pe w a)<0/\0<=σ*sgR (pe w b)then 1 else 0):=by
 obtain⟨G,c,N,e,F,C,h3,h4,h5⟩:=q.mulw;have sσ:sgR (σ:Y)=σ:=by rcases hσ with rfl|rfl<;>decide
 have n:Aw a b (pd w):=⟨δ,hδ,fun x i j=>by
  have:=hd x i j;rcases hσ with rfl|rfl
  ·have e:((1:Z):Y)=1:=rfl;rw[e]at this;unfold abR;split<;>grind
  ·have e:((-1:Z):Y)= -1:=rfl;rw[e]at this;unfold abR;split<;>grind⟩;have aG:Aw a b (pe G):=n.factor (O4 _ _ _) (F5 C) h4;obtain⟨δG,g0,X⟩:=aG;have cG:∀x,a<=x->x<=b->sgR (pe G x)=sgR (pe G a):=fun x F C=>(A80 (O4 a b G) g0 X gz0 F C).symm
 have nG:sgR (pe G a)≠0:=fun z=>by
  have:=X a gz0 gz0;rw[U9.1 z]at this;unfold abR at this;grind
 have sG:=J9 (pe G a)
 have B:∀x,a<=x->x<=b->sgR (pe w x)=sgR (pe S x)*sgR (pe G a):=fun x k1 k2=>by
  rw[h3,Ix,Ix,C37 F,cG x k1 k2];omega
 have T:=B a gz0 gz0;have H:=B b gz0 gz0;have aa:=J9 (pe S a);have ac:=J9 (pe S b)
 cases t with
 |nil=>
  obtain⟨s,hs⟩:=q.con rfl;rw[hs]at T H
  have z:∀s:Z,chg 0 [s]=0:=fun s=>by
   by_cases h:s=0;·simp[chg,h]
   ·rw[Py h,iN o];rfl
  rw[iN (by rw[T,H];omega)];simp only[Vs,aU,cF,z]
 |cons Q t'=>
  obtain⟨dS,dQ⟩:=q.ch.dvd;obtain⟨M,f,m0,hf⟩:=dS;obtain⟨P,r,p0,hr⟩:=dQ Q t' rfl;obtain⟨k,k0,V⟩:=q.der Q t' rfl
  have aD:Aw a b (pe (Ee S (Q::t'))):=n.factor (N:=(M:Y)*(P:Y)) (e:=fun x=>(c:Y)*((M:Y)*(k:Y)*(pe r x*pe G x)+(P:Y)*(pe f x*pd G x)))
   ((Nice.const _).mul (((Nice.const _).mul ((O4 _ _ _).mul (O4 _ _ _))).add ((Nice.const _).mul ((O4 _ _ _).mul (C13 _ _ _)))))
   (fun z=>by rcases Rat.mul_eq_zero.1 z with z|z;exact F5 m0 z;exact F5 p0 z) fun x=>by
    have a1:=hf x;have a2:=hr x;rw[h5,V];generalize pe (Ee S (Q::t')) x=D at *;have:(M:Y)*(P:Y)*((c:Y)*((k:Y)*pe Q x*pe G x+pe S x*pd G x))=(c:Y)*((M:Y)*(k:Y)*pe G x*((P:Y)*pe Q x)+(P:Y)*pd G x*((M:Y)*pe S x)):=gz0;rw[this,a1,a2];grind
  have st:=PCh.st _ _ q.ch aD;obtain⟨K,K0,hK⟩:=Um a b S;obtain⟨Kw,Kw0,E⟩:=Um a b w
  have mw:∀x y,a<=x->x<y->y<=b->0<=σ*sgR (pe w x)->0<σ*sgR (pe w y):=by
   intro x y i j l A;have sx:0<=sgR ((σ:Y)*pe w x):=by rw[Ix,sσ];exact A
   have px:0<=(σ:Y)*pe w x:=by
    by_cases z:0<=(σ:Y)*pe w x;·exact z
    ·have:=T8.2 (show(σ:Y)*pe w x<0 from gz0);omega
   have sl:=C6j (a:=a) (b:=b) (p:=fun z=>(σ:Y)*pe w z) (d:=fun z=>(σ:Y)*pd w z) (g:=δ) ⟨Kw,Kw0,fun u v u1 u2 u3 u4=>by
    have:=E u v u1 u2 u3 u4;rcases hσ with rfl|rfl
    ·have e:((1:Z):Y)=1:=rfl;rw[e,show 1*pe w v-1*pe w u-(v-u)*(1*pd w u)=pe w v-pe w u-(v-u)*pd w u from gz0];exact this
    ·have e:((-1:Z):Y)= -1:=rfl;rw[e,<- A99,show -(-1*pe w v - -1*pe w u-(v-u)*(-1*pd w u))=pe w v-pe w u-(v-u)*pd w u from gz0];exact this⟩ hd i gz0 l;have pos:=aK hδ (show 0<y-x from gz0);have:=R4.2 (show 0<(σ:Y)*pe w y from gz0);rw[Ix,sσ]at this;omega
  have κ:sgR (pe G a)=1\/sgR (pe G a)= -1:=o
  have:=A37 st ⟨K,(k:Y),K0,K8 k0,fun x y i j l A=>by rw[<- V];exact hK x y i j l A⟩ (O4 _ _ _) (σ:=σ*sgR (pe G a)) (by rcases hσ with z|z<;>rcases κ with y|y<;>rw[z,y]<;>decide) (fun x y i j l A=>by
   have m:=mw x y i j l;rw[B x i gz0,B y gz0 l]at m;have O:σ*(sgR (pe S x)*sgR (pe G a))=σ*sgR (pe G a)*sgR (pe S x):=by rw[aT (sgR (pe S x)),bX]
   have L:σ*(sgR (pe S y)*sgR (pe G a))=σ*sgR (pe G a)*sgR (pe S y):=by rw[aT (sgR (pe S y)),bX]
   rw[O,L]at m;exact m A) gz0;have O:σ*(sgR (pe S a)*sgR (pe G a))=σ*sgR (pe G a)*sgR (pe S a):=by rw[aT (sgR (pe S a)),bX]
  have L:σ*(sgR (pe S b)*sgR (pe G a))=σ*sgR (pe G a)*sgR (pe S b):=by rw[aT (sgR (pe S b)),bX]
  have R:=B57 (S::Q::t');simp only[aU]at R this;rw[R,R]at this;rw[this,T,H,O,L]
end
end Go.Proofs.YteppbhimdjmabaaGreatDoor
namespace Go.Proofs.YteppbhimdjmabaaGreatDoor
set_option maxRecDepth 20000
def B54{u v:dF Z}(h:u.length<v.length):(Rx u v).length=v.length/\∀h1 h2,(Rx u v).getLast h1=v.getLast h2:=by
 induction u generalizing v with
 |nil=>exact⟨rfl,fun _ _=>rfl⟩
 |cons c u ih=>
  cases v with
  |nil=>simp at h
  |cons d v=>
   simp only[aW]at h;obtain⟨i1,e⟩:=ih (v:=v) o;refine⟨by simp only[Rx,aW,i1],fun h1 h2=>?_⟩;have a:v≠[]:=gz0;have b:Rx u v≠[]:=gz0;simp only[Rx];grind
def Ji{a b:dF Z}(ha:a≠[])(hb:b≠[]):(Lh a b).length+1=a.length+b.length/\∀h,(Lh a b).getLast h=a.getLast ha*b.getLast hb:=by
 induction a with
 |nil=>grind
 |cons c a ih=>
  have k:=List.length_pos_iff.2 hb
  cases a with
  |nil=>
   have e:Lh [c] b=J8 c b:=by
    have f:∀l:dF Z,l≠[]->Rx l [0]=l:=fun l hl=>by
     cases l with
     |nil=>grind
     |cons x l=>cases l<;>simp[Rx]
    exact f _ (by simpa[J8]using hb)
   rw[e];refine⟨by simp[J8];omega,fun h=>?_⟩;simp[J8,List.getLast_map]
  |cons d a=>
   obtain⟨i1,j⟩:=ih (by simp);have g:Lh (d::a) b≠[]:=gz0;have hl:(J8 c b).length<(0::Lh (d::a) b).length:=by simp only[J8,List.length_map,aW]at i1 ⊢;omega
   obtain⟨i,m⟩:=B54 hl;have e:Lh (c::d::a) b=Rx (J8 c b) (0::Lh (d::a) b):=rfl;grind
def Nz.mul{a b:dF Z}(ha:Nz a)(hb:Nz b)(h1:a≠[])(h2:b≠[]):Nz (Lh a b):=by intro h;obtain⟨_,e⟩:=Ji h1 h2;rw[e h];intro z;rcases Int.mul_eq_zero.1 z with z|z;{exact ha h1 z};·exact hb h2 z
def Nz.scl{a:dF Z}{k:Z}(ha:Nz a)(hk:k≠0):Nz (J8 k a):=by intro h;have b:a≠[]:=by{rintro rfl;exact h rfl};intro z;simp only[J8,List.getLast_map]at z;rcases Int.mul_eq_zero.1 z with z|z;{exact hk z};·exact ha b z
def A75{N:Z}{u a b:dF Z}(hN:N≠0)(hu:Nz u)(ha:Nz a)(hb:Nz b)(h1:a≠[])(h2:b≠[])(h:∀x,(N:Y)*pe u x=pe a x*pe b x):u.length+1=a.length+b.length:=by have e:J8 N u=Lh a b:=Nz.ext (hu.scl hN) (ha.mul hb h1 h2) fun x=>by{rw[F4,Q5,h]};have:=(Ji h1 h2).1;rw[<- e]at this;simpa[J8]using this
def Nz.val{a:dF Z}(ha:Nz a)(h1:a≠[]):∃x,pe a x≠0:=by by_cases h:∃x,pe a x≠0;{exact h};·exfalso;have:a=[]:=Nz.ext ha (fun h=>absurd rfl h) fun x=>by{by_cases z:pe a x=0;{assumption};grind};grind
def trZ:dF Z->dF Z
 | []=>[]
 |c::w=>if c=0/\trZ w=[]then []else c::trZ w
def Hs:∀w,Nz (trZ w):=by
 intro w
 induction w with
 |nil=>intro h;exact absurd rfl h
 |cons c w ih=>
  by_cases b:c=0/\trZ w=[]
  ·have e:trZ (c::w)=[]:=by rw[trZ,iP b]
   grind
  ·have e:trZ (c::w)=c::trZ w:=by rw[trZ,iN b]
   rw[e];intro h;by_cases a:trZ w=[];·grind
   ·rw[List.getLast_cons a];exact ih a
def Jk{l:dF Z}(h:l≠[]):l.getLast h=cf l (l.length-1):=by grind
def Cj:∀w x,pe (trZ w) x=pe w x:=by
 intro w x
 induction w with
 |nil=>rfl
 |cons c w ih=>
  simp only[trZ];split
  ·rename_i a;rw[a.2]at ih;have e:((0:Z):Y)=0:=rfl;simp only[pe]at ih ⊢;rw[<- ih,a.1,e];grind
  ·simp only[pe,ih]
def A61:∀w,(trZ w).length<=w.length:=by
 intro w
 induction w with
 |nil=>exact aJ _
 |cons c w ih=>
  simp only[trZ];grind
def Xv:J->dF Z->dF Z
 |_,[]=>[]
 |k,c::w=>(c*k)::Xv (k+1) w
def dl:dF Z->dF Z
 | []=>[]
 |_::w=>Xv 1 w
def B48:∀(k:J) w x,pe (Xv (k+1) w) x=pe (Xv k w) x+pe w x:=by
 intro k w
 induction w generalizing k with
 |nil=>intro x;simp only[Xv,pe];grind
 |cons c w ih=>
  intro x
  have e:((c*((k+1:J):Z):Z):Y)=((c*(k:Z):Z):Y)+(c:Y):=by
   grind
  simp only[Xv,pe,ih,e];grind
def Na:∀w x,pe (dl w) x=pd w x:=by
 intro w
 induction w with
 |nil=>intro x;rfl
 |cons c w ih=>
  intro x;show pe (Xv 1 w) x=pe w x+x*pd w x;rw[<- ih]
  cases w with
  |nil=>simp only[Xv,dl,pe];grind
  |cons d w=>
   show pe (Xv 1 (d::w)) x=pe (d::w) x+x*pe (Xv 1 w) x;have e:((d*((1:J):Z):Z):Y)=(d:Y):=gz0;simp only[Xv,pe,e,B48];grind
def A20(k:J)(w:dF Z):(Xv k w).length=w.length:=by
 induction w generalizing k with
 |nil=>rfl
 |cons c w ih=>simp[Xv,ih]
def Jp(w:dF Z):(dl w).length=w.length-1:=by
 cases w with
 |nil=>rfl
 |cons c w=>simp[dl,A20]
def B4a(k:J)(w:dF Z)(i:J):cf (Xv k w) i=cf w i*((k+i:J):Z):=by
 induction w generalizing k i with
 |nil=>simp[Xv,cf]
 |cons c w ih=>
  cases i with
  |zero=>rfl
  |succ i=>
   have:=ih (k+1) i;simp only[Xv,cf,List.getD_cons_succ]at this ⊢;grind
def A45{w:dF Z}(hw:Nz w):Nz (dl w):=by
 intro h
 cases w with
 |nil=>exact absurd rfl h
 |cons c w=>
  have a:w≠[]:=by rintro rfl;exact h rfl
  have d:(Xv 1 w).getLast h=cf (Xv 1 w) (w.length-1):=by
   have:=Jk (l:=Xv 1 w) h;rw[A20]at this;exact this
  have e:=Jk a;have b:=hw (by simp);rw[List.getLast_cons a,e]at b;show(Xv 1 w).getLast h≠0;rw[d,B4a];intro z;rcases Int.mul_eq_zero.1 z with z|z;·exact b z
  ·omega
def Dv.step{d a b q r r':dF Z}{m c:Z}(hm:m≠0)(h:∀x,(m:Y)*pe a x=pe q x*pe b x+pe r x)(hr:∀x,pe r x=(c:Y)*pe r' x)(h1:Dv d b)(h2:Dv d r'):Dv d a:=by obtain⟨N,e,g,h1⟩:=h1;obtain⟨M,f,i,h2⟩:=h2;refine⟨m*(N*M),Rx (J8 M (Lh q e)) (J8 (c*N) f),fun z=>?_,fun x=>?_⟩;{rcases Int.mul_eq_zero.1 z with z|z;{exact hm z};·rcases Int.mul_eq_zero.1 z with z|z<;>contradiction};·rw[Jd,F4,F4,Q5,aC,aC,aC];grind
def Dv.nil(d:dF Z):Dv d []:=⟨1,[],dc,fun x=>by simp only[pe];grind⟩
def Sq.of{w W G S:dF Z}{t:dF (dF Z)}{c:Z}(hc:0<c)(hW:∀x,pe w x=(c:Y)*pe W x)(d2:Dv G (dl W))(hS:∀x,pe W x=pe S x*pe G x)(ch:PCh (S::t))
 (hd:∀Q t',t=Q::t'->∃c:Z,0<c/\∀x,pd S x=(c:Y)*pe Q x) (h0:t=[]->S.length<=1):Sq w S t:=by
 obtain⟨N,e,d,a⟩:=d2;refine⟨ch,⟨G,c,N,J8 c e,hc,d,fun x=>gz0,fun x=>?_⟩,hd,fun b=>?_⟩
 ·have f:pd w x=(c:Y)*pd W x:=by
   have:=Je (w:=w) (S:=[1]) (G:=W) (c:=(c:Y)) (fun x=>by
    have e:((1:Z):Y)=1:=rfl;simp only[pe,e];grind) x;have e:((1:Z):Y)=1:=rfl;rw[this];simp only[pe,pd,e];grind
  have:=a x;rw[Na]at this;rw[f,F4];grind
 ·have hl:=h0 b
  match S,hl with
  | [],_=>exact⟨0,fun x=>rfl⟩
  | [s],_=>exact⟨s,fun x=>by simp only[pe];grind⟩
end Go.Proofs.YteppbhimdjmabaaGreatDoor
namespace Go.Proofs.YteppbhimdjmabaaGreatDoor
set_option maxRecDepth 20000
def pwx(x:Y):J->Y
 |0=>1
 |n+1=>x*pwx x n
def B2l(x:Y)(m n:J):pwx x (m+n)=pwx x m*pwx x n:=by
 induction m with
 |zero=>rw[aS];simp only[pwx];grind
 |succ m ih=>rw[Nat.succ_add];simp only[pwx,ih];grind
def ps(z:J->Z)(x:Y):J->Y
 |0=>0
 |n+1=>ps z x n+(z n:Y)*pwx x n
def A1d{z y:J->Z}{x:Y}:∀{n:J},(∀i,i<n->z i=y i)->ps z x n=ps y x n:=by
 intro n
 induction n with
 |zero=>intro _;rfl
 |succ n ih=>intro h;simp only[ps];rw[ih fun i a=>h i o,h n o]
def C0x(z:J->Z)(x:Y):∀n,ps z x (n+1)=(z 0:Y)+x*ps (fun i=>z (i+1)) x n:=by
 intro n
 induction n with
 |zero=>simp only[ps,pwx];grind
 |succ n ih=>
  rw[ps,ih];simp only[ps,pwx];grind
def Vr:∀(w:dF Z) (x:Y),ps (cf w) x w.length=pe w x:=by
 intro w
 induction w with
 |nil=>intro x;rfl
 |cons c w ih=>
  intro x;rw[aW,C0x];simp only[pe];rw[<- ih x];rfl
def A40(z:J->Z)(n:J)(x:Y):pe ((bF n).map z) x=ps z x n:=by rw[<- Vr,List.length_map,List.length_range];exact A1d fun i a=>by simp[cf,aP,a]
def Zw(z:J->Z){n i:J}(hi:i<n):cf ((bF n).map z) i=z i:=by simp[cf,aP,hi]
def Zx{w:dF Z}{i:J}(h:w.length<=i):cf w i=0:=by simp only[cf,aP];rw[List.getElem?_eq_none h];rfl
def Ou{z y u:J->Z}{x:Y}{a b:Z}:∀{n:J},(∀i,i<n->u i=a*z i+b*y i)->ps u x n=(a:Y)*ps z x n+(b:Y)*ps y x n:=by
 intro n
 induction n with
 |zero=>intro _;simp only[ps];grind
 |succ n ih=>
  intro h;simp only[ps];rw[ih fun i c=>h i o,h n o,bN,aC,aC];grind
def A1c{v u:J->Z}{x:Y}{k:J}(h0:∀i,i<k->u i=0):∀{n:J},(∀i,i<n->u (k+i)=v i)->ps u x (k+n)=pwx x k*ps v x n:=by
 intro n
 induction n with
 |zero=>
  intro _
  have:∀m,m<=k->ps u x m=0:=by
   intro m
   induction m with
   |zero=>intro _;rfl
   |succ m ih=>
    intro a;have e:((0:Z):Y)=0:=rfl;simp only[ps];rw[ih o,h0 m o,e];grind
  rw[cW,this k (aJ _)];simp only[ps];grind
 |succ n ih=>
  intro h;rw[<- cP];simp only[ps];rw[ih fun i b=>h i o,h n o,B2l];grind
def Tz{z:J->Z}{x:Y}{m:J}:∀{k:J},(∀i,m<=i->i<m+k->z i=0)->ps z x (m+k)=ps z x m:=by
 intro k
 induction k with
 |zero=>intro _;rfl
 |succ k ih=>
  intro h;have e:((0:Z):Y)=0:=rfl;rw[<- cP,ps,ih fun i a b=>h i a o,h (m+k) o o,e];grind
def C0z{r s v:J->Z}{x:Y}{n k:J}{lead top:Z}(hl:lead=v n)(ht:top=r (n+k))(hs:∀i,i<n+k->s i=r i*lead-(if k<=i then top*v (i-k)else 0)): (lead:Y)*ps r x (n+k+1)=ps s x (n+k)+(top:Y)*(pwx x k*ps v x (n+1)):=by have e:ps s x (n+k)=(lead:Y)*ps r x (n+k)+((-1:Z):Y)*ps (fun i=>if k<=i then top*v (i-k)else 0) x (n+k):=Ou fun i b=>by{rw[hs i b,aT];omega};have a:ps (fun i=>if k<=i then top*v (i-k)else 0) x (k+n)=pwx x k*ps (fun i=>top*v i) x n:=A1c (fun i b=>iN o) fun i _=>by{rw[iP o,cR]};have f:ps (fun i=>top*v i) x n=(top:Y)*ps v x n+((0:Z):Y)*ps v x n:=Ou fun i _=>by{omega};rw[cD k n]at a;rw[e,a,f];have c:((0:Z):Y)=0:=rfl;have d:((-1:Z):Y)= -1:=rfl;simp only[ps,B2l,<- hl,<- ht,c,d];grind
def C4m{q u:J->Z}{x:Y}{n k:J}{a t:Z}(hk:k<n)(hu:∀i,i<n->u i=a*q i+(if i=k then t else 0)):ps u x n=(a:Y)*ps q x n+(t:Y)*pwx x k:=by have d:ps u x n=(a:Y)*ps q x n+((1:Z):Y)*ps (fun i=>if i=k then t else 0) x n:=Ou fun i c=>by{rw[hu i c];omega};have b:ps (fun i=>if i=k then t else 0) x (k+1+(n-(k+1)))=ps (fun i=>if i=k then t else 0) x (k+1):=Tz fun i d b=>iN o;have f:ps (fun i=>if i=k then t else 0) x (k+1)=pwx x k*ps (fun _=>t) x 1:=A1c (fun i c=>iN o) fun i c=>by{rw[iP o]};rw[show k+1+(n-(k+1))=n from o,f]at b;rw[d,b];have e:((1:Z):Y)=1:=rfl;simp only[ps,pwx,e];grind
end Go.Proofs.YteppbhimdjmabaaGreatDoor
namespace Go.Proofs.YteppbhimdjmabaaGreatDoor
set_option maxRecDepth 20000
def PF(f:Y->Y):Prop:=∃(N:Z) (e:dF Z),N≠0/\∀x,(N:Y)*f x=pe e x
def PF.po(w:dF Z):PF (pe w):=⟨1,w,dc,fun x=>by grind⟩
def PF.de(w:dF Z):PF (pd w):=by obtain⟨N,e,a,h⟩:=PF.po (dl w);exact⟨N,e,a,fun x=>by rw[<- Na,h]⟩
def PF.int(k:Z):PF fun _=>(k:Y):=⟨1,[k],dc,fun x=>by have e:((1:Z):Y)=1:=rfl;simp only[Go.Proofs.YteppbhimdjmabaaGreatDoor.pe,e];grind⟩
def PF.add{f g:Y->Y}(hf:PF f)(hg:PF g):PF fun x=>f x+g x:=by obtain⟨N,e,a,h⟩:=hf;obtain⟨M,u,b,k⟩:=hg;refine⟨N*M,Rx (J8 M e) (J8 N u),fun z=>by rcases Int.mul_eq_zero.1 z with z|z<;>contradiction,fun x=>?_⟩;rw[Jd,F4,F4,<- h,<- k,aC];grind
def PF.mul{f g:Y->Y}(hf:PF f)(hg:PF g):PF fun x=>f x*g x:=by obtain⟨N,e,a,h⟩:=hf;obtain⟨M,u,b,k⟩:=hg;refine⟨N*M,Lh e u,fun z=>by rcases Int.mul_eq_zero.1 z with z|z<;>contradiction,fun x=>?_⟩;rw[Q5,<- h,<- k,aC];grind
def A5k{a:dF Z}{f g:Y->Y}(ha:Nz a)(h1:a≠[])(hf:PF f)(hg:PF g)(h:∀x,pe a x*f x=pe a x*g x)(x:Y):f x=g x:=by obtain⟨N,e,i,k⟩:=hf.add ((PF.int (-1)).mul hg);have j:trZ e=[]:=by{by_cases b:trZ e=[];{exact b};·exfalso;obtain⟨y,d⟩:=(ha.mul (Hs e) h1 b).val (by intro z;have:=(Ji h1 b).1;have:=List.length_pos_iff.2 h1;have:=List.length_pos_iff.2 b;grind);apply d;rw[Q5,Cj,<- k y];grind};have c:=k x;rw[<- Cj,j]at c;have l:f x+((-1:Z):Y)*g x=0:=by{have:(N:Y)*(f x+((-1:Z):Y)*g x)=0:=c;exact(Rat.mul_eq_zero.1 this).resolve_left (F5 i)};grind
def Dv.of{d p:dF Z}{g:Y->Y}(hg:PF g){K:Z}(hK:K≠0)(h:∀x,(K:Y)*pe p x=g x*pe d x):Dv d p:=by obtain⟨N,e,a,k⟩:=hg;refine⟨N*K,e,fun z=>by rcases Int.mul_eq_zero.1 z with z|z<;>contradiction,fun x=>?_⟩;grind
def lpw(d:dF Z):J->dF Z
 |0=>[1]
 |k+1=>Lh d (lpw d k)
def Z6(x:Y):pe [1] x=1:=by have e:((1:Z):Y)=1:=rfl;simp only[pe,e];grind
def A41(x:Y):pd [1] x=0:=by simp only[pe,pd];grind
def C4q(d:dF Z):∀k x,pd (lpw d (k+1)) x=((k+1:J):Y)*(pe (lpw d k) x*pd d x):=by
 intro k
 induction k with
 |zero=>
  intro x;have:=Je (w:=lpw d 1) (S:=d) (G:=[1]) (c:=1) (fun x=>by rw[lpw,lpw,Q5];grind) x;rw[this,Z6,A41];simp only[lpw,Z6];grind
 |succ k ih=>
  intro x;have:=Je (w:=lpw d (k+2)) (S:=d) (G:=lpw d (k+1)) (c:=1) (fun x=>by rw[lpw,Q5];grind) x;have a:pe (lpw d (k+1)) x=pe d x*pe (lpw d k) x:=by rw[lpw,Q5]
  grind
def C7r{d:dF Z}(hd:Nz d)(h2:2<=d.length):∀(n:J) (g:dF Z),Nz g->g≠[]->g.length<=n->∃(k:J) (M:dF Z) (N:Z),Nz M/\M≠[]/\N≠0/\(∀x,(N:Y)*pe g x=pe (lpw d k) x*pe M x)/\¬Dv d M:=by
 have l:d≠[]:=gz0;intro n
 induction n with
 |zero=>grind
 |succ n ih=>
  intro g b g0 u;by_cases f:Dv d g
  ·obtain⟨N,e,i,h⟩:=f
   have c:trZ e≠[]:=fun z=>by
    obtain⟨y,q⟩:=b.val g0;apply q;have:=h y;rw[<- Cj e,z]at this;have r:(N:Y)*pe g y=0:=by rw[this];simp only[pe];grind
    exact(Rat.mul_eq_zero.1 r).resolve_left (F5 i)
   have hl:=A75 i b (Hs e) hd c l (fun x=>by rw[Cj];exact h x);obtain⟨k,M,P,s,m,t,j,a⟩:=ih (trZ e) (Hs e) c o;refine⟨k+1,M,N*P,s,m,fun z=>by rcases Int.mul_eq_zero.1 z with z|z<;>contradiction,fun x=>?_,a⟩;have p:=j x;rw[Cj]at p;rw[lpw,Q5,aC];grind
  ·exact⟨0,g,1,b,g0,dc,fun x=>by
    have e:((1:Z):Y)=1:=rfl;simp only[lpw,Z6,e],f⟩
def B8u{d:dF Z}(hd:Nz d)(d0:d≠[]):∀k,Nz (lpw d k)/\lpw d k≠[]:=by
 intro k
 induction k with
 |zero=>exact⟨fun _=>by simp[lpw],by simp[lpw]⟩
 |succ k ih=>
  refine⟨hd.mul ih.1 d0 ih.2,fun z=>?_⟩;have:=(Ji d0 ih.2).1;rw[lpw]at z;have:=List.length_pos_iff.2 d0;have:=List.length_pos_iff.2 ih.2;grind
def A9m{W S G D:dF Z}(hG:Nz G)(G0:G≠[])(hWS:∀x,pe W x=pe S x*pe G x)(hW':Dv G (dl W))
 (bez:∃(N:Z) (α β:Y->Y),N≠0/\PF α/\PF β/\∀x,(N:Y)*pe G x=α x*pe W x+β x*pd W x)
 (hD:Nz D) (d1:Dv D S) (d2:Dv D (dl S)):D.length<=1:=by
 by_cases A:D.length<=1;·exact A
 exfalso;have D0:D≠[]:=gz0;obtain⟨Nh,d,nh,F⟩:=hW';obtain⟨NB,α,β,V,pα,pβ,T⟩:=bez;obtain⟨N1,a,n1,C⟩:=d1;obtain⟨N2,e,n2,p⟩:=d2;obtain⟨k,M,NG,R,M0,ng,f,s⟩:=C7r hD o G.length G hG G0 (aJ _)
 have pW:∀x,pd W x=pd S x*pe G x+pe S x*pd G x:=fun x=>by
  have:=Je (w:=W) (S:=S) (G:=G) (c:=1) (fun x=>gz0) x;grind
 have y:∀x,(Nh:Y)*pd W x=pe d x*pe G x:=fun x=>by rw[<- Na,F]
 have X:∀x,(NB:Y)*(Nh:Y)=(Nh:Y)*α x*pe S x+β x*pe d x:=by
  refine A5k hG G0 ((PF.int NB).mul (PF.int Nh)) (((((PF.int Nh).mul pα).mul (PF.po S)).add (pβ.mul (PF.po d)))) fun x=>?_;grind
 have dS:∀x,(N1:Y)*pd S x=pd a x*pe D x+pe a x*pd D x:=fun x=>by
  have:=Je (w:=J8 N1 S) (S:=a) (G:=D) (c:=1) (fun x=>by rw[F4,C];grind) x;have q:=Je (w:=J8 N1 S) (S:=[1]) (G:=S) (c:=(N1:Y)) (fun x=>by rw[F4,Z6];grind) x;rw[this,Z6,A41]at q;grind
 have B:∀x,(N2:Y)*pd S x=pe e x*pe D x:=fun x=>by rw[<- Na,p]
 have b:∃i:Y,PF (fun _:Y=>i)/\∀x,(Nh:Y)*(pe a x*(i*(pd D x*pe M x)+pe D x*pd M x))=(N1:Y)*(pe M x*(pe d x-(Nh:Y)*pd S x)):=by
  cases k with
  |zero=>
   refine⟨0,⟨1,[],dc,fun x=>by simp only[pe];grind⟩,fun x=>?_⟩;have m:=f x
   have r:(NG:Y)*pd G x=pd M x:=by
    have q:=Je (w:=M) (S:=[1]) (G:=G) (c:=(NG:Y)) (fun x=>by
     have:=f x;rw[lpw,Z6]at this;rw[Z6];grind) x;rw[Z6,A41]at q;grind
   rw[lpw,Z6]at m;grind
  |succ j=>
   obtain⟨H,E⟩:=B8u hD D0 j;have n:=hD.mul H D0 E;have O:Lh D (lpw D j)≠[]:=(B8u hD D0 (j+1)).2;have l:PF fun _:Y=>((j+1:J):Y):=PF.int ((j+1:J):Z)
   refine⟨((j+1:J):Y),l,A5k n O ((PF.int Nh).mul ((PF.po a).mul ((l.mul ((PF.de D).mul (PF.po M))).add ((PF.po D).mul (PF.de M))))) ((PF.int N1).mul ((PF.po M).mul (by
    have:=(PF.po d).add ((PF.int (-Nh)).mul (PF.de S));grind))) fun x=>?_⟩;have m:=f x
   have r:(NG:Y)*pd G x=pd (lpw D (j+1)) x*pe M x+pe (lpw D (j+1)) x*pd M x:=by
    have q:=Je (w:=J8 NG G) (S:=lpw D (j+1)) (G:=M) (c:=1) (fun x=>by rw[F4,f];grind) x;have Q:=Je (w:=J8 NG G) (S:=[1]) (G:=G) (c:=(NG:Y)) (fun x=>by rw[F4,Z6];grind) x;rw[q,Z6,A41]at Q;grind
   rw[C4q]at r;have L:pe (lpw D (j+1)) x=pe D x*pe (lpw D j) x:=by rw[lpw,Q5]
   rw[L]at m r;rw[Q5];grind
 obtain⟨i,l,hm⟩:=b;apply s
 have K0:N2*N1*(NB*Nh)≠0:=fun z=>by
  rcases Int.mul_eq_zero.1 z with z|z;·rcases Int.mul_eq_zero.1 z with z|z<;>contradiction
  ·rcases Int.mul_eq_zero.1 z with z|z<;>contradiction
 refine Dv.of (g:=fun x=>(N2:Y)*((Nh:Y)*(α x*(pe a x*pe M x)))+β x*((Nh:Y)*(i*(pe M x*((N1:Y)*pe e x+((-N2:Z):Y)*pd a x)))+((N2:Y)*((Nh:Y)*(pe a x*pd M x))+(N1:Y)*((Nh:Y)*(pe M x*pe e x)))))
  (((PF.int N2).mul ((PF.int Nh).mul (pα.mul ((PF.po a).mul (PF.po M))))).add (pβ.mul (((PF.int Nh).mul (l.mul ((PF.po M).mul (((PF.int N1).mul (PF.po e)).add ((PF.int (-N2)).mul (PF.de a)))))).add (((PF.int N2).mul ((PF.int Nh).mul ((PF.po a).mul (PF.de M)))).add ((PF.int N1).mul ((PF.int Nh).mul ((PF.po M).mul (PF.po e)))))))) K0 fun x=>?_;grind
end Go.Proofs.YteppbhimdjmabaaGreatDoor
namespace Go.Proofs.YteppbhimdjmabaaGreatDoor
set_option maxRecDepth 20000
section
variable {a b:Y}
def Vn(l:dF (dF Z))(x:Y):J:=chg 0 (Vs l x)
end
end Go.Proofs.YteppbhimdjmabaaGreatDoor
namespace Go.Proofs.YteppbhimdjmabaaGreatDoor
set_option maxRecDepth 20000
section
variable {a b:Y}
end
end Go.Proofs.YteppbhimdjmabaaGreatDoor
namespace Go.Proofs.YteppbhimdjmabaaGreatDoor
set_option maxRecDepth 20000
def PQ(w v:Y->Y)(n nq k:J)(m:Z)(q r:J->Z):Prop:=m≠0/\∀x,(m:Y)*w x=ps q x nq*v x+ps r x (n+k)
def PQ.start{w v:Y->Y}{n nq:J}{q r:J->Z}(hq:∀i,i<nq->q i=0)(hr:∀x,w x=ps r x (n+nq)):PQ w v n nq nq 1 q r:=by refine⟨dc,fun x=>?_⟩;have z:ps q x nq=0:=by{have:=Tz (z:=q) (x:=x) (m:=0) (k:=nq) fun i _ h=>hq i o;rw[aS]at this;assumption};grind
def PQ.skip{w v:Y->Y}{n nq k:J}{m:Z}{q r:J->Z}(h:PQ w v n nq (k+1) m q r)(h0:r (n+k)=0):PQ w v n nq k m q r:=by refine⟨h.1,fun x=>?_⟩;rw[h.2,<- cP,ps,h0];grind
def PQ.step{w:Y->Y}{v q r q' r':J->Z}{n nq k:J}{m m' lead top:Z}(h:PQ w (fun x=>ps v x (n+1)) n nq (k+1) m q r)(hk:k<nq)(hl:lead=v n)(hl0:lead≠0)(ht:top=r (n+k)) (hm:m'=m*lead) (hq:∀i,i<nq->q' i=lead*q i+(if i=k then top else 0)) (hr:∀i,i<n+k->r' i=r i*lead-(if k<=i then top*v (i-k)else 0)):PQ w (fun x=>ps v x (n+1)) n nq k m' q' r':=by refine⟨fun z=>?_,fun x=>?_⟩;{rw[hm]at z;rcases Int.mul_eq_zero.1 z with z|z;{exact h.1 z};omega};·have b:=h.2 x;have c:=C0z (x:=x) hl ht hr;have a:=C4m (x:=x) hk hq;rw[hm,aC,a];grind
def C5p{a b:dF Z}(ha:a≠[])(hb:b≠[]):cf (Lh a b) (a.length-1+(b.length-1))=cf a (a.length-1)*cf b (b.length-1):=by obtain⟨e,d⟩:=Ji ha hb;have f:=List.length_pos_iff.2 ha;have g:=List.length_pos_iff.2 hb;have c:Lh a b≠[]:=gz0;grind
def QE(f v:dF Z)(k:J)(r:J->Z):Prop:=∀x,ps r x (v.length-1+f.length)=pe (f.take k) x*pe v x
def QE.start{f v:dF Z}{r:J->Z}(h:∀x,ps r x (v.length-1+f.length)=pe f x*pe v x):QE f v f.length r:=fun x=>by grind
def QE.top{f v:dF Z}{k:J}{r:J->Z}(h:QE f v (k+1) r)(hk:k<f.length)(hv:v≠[]):r (v.length-1+k)=cf f k*cf v (v.length-1):=by have a:f.take (k+1)≠[]:=by{intro z;simp_all};have e:=Zh (u:=(bF (v.length-1+f.length)).map r) (v:=Lh (f.take (k+1)) v) (fun x=>by rw[A40,h,Q5]) (v.length-1+k);have t:=C5p a hv;grind
def B9n{f:dF Z}{k:J}(hk:k<f.length)(x:Y):pe (f.take (k+1)) x=pe (f.take k) x+(cf f k:Y)*pwx x k:=by have hl:∀j,j<=f.length->pe (f.take j) x=ps (cf f) x j:=fun j a=>by{rw[<- Vr];have e:(f.take j).length=j:=gz0;rw[e];refine A1d fun i b=>?_;grind};rw[hl _ o,hl _ o];rfl
def QE.step{f v:dF Z}{k:J}{r r':J->Z}(h:QE f v (k+1) r)(hk:k<f.length)(hv:v≠[])(hr:∀i,i<v.length-1+f.length->r' i=r i-(if k<=i/\i<k+v.length then cf f k*cf v (i-k)else 0)):QE f v k r':=by intro x;have c:ps r' x (v.length-1+f.length)=((1:Z):Y)*ps r x (v.length-1+f.length)+((-1:Z):Y)*ps (fun i=>if k<=i/\i<k+v.length then cf f k*cf v (i-k)else 0) x (v.length-1+f.length):=Ou fun i d=>by{grind};have a:ps (fun i=>if k<=i/\i<k+v.length then cf f k*cf v (i-k)else 0) x (k+v.length)=pwx x k*ps (fun i=>cf f k*cf v i) x v.length:=A1c (fun i d=>iN o) fun i d=>by{grind};have l:ps (fun i=>cf f k*cf v i) x v.length=(cf f k:Y)*ps (cf v) x v.length+((0:Z):Y)*ps (cf v) x v.length:=Ou fun i _=>by{omega};have b:ps (fun i=>if k<=i/\i<k+v.length then cf f k*cf v (i-k)else 0) x (k+v.length+(v.length-1+f.length-(k+v.length)))=ps (fun i=>if k<=i/\i<k+v.length then cf f k*cf v (i-k)else 0) x (k+v.length):=Tz fun i c a=>iN o;rw[show k+v.length+(v.length-1+f.length-(k+v.length))=v.length-1+f.length from o,a,l,Vr]at b;have e:((0:Z):Y)=0:=rfl;have g:((1:Z):Y)=1:=rfl;have j:((-1:Z):Y)= -1:=rfl;rw[c,b,h x,B9n hk,e,g,j];grind
def Cb(A B f:dF Z):Prop:=∃(N:Z) (α β:dF Z),N≠0/\∀x,(N:Y)*pe f x=pe α x*pe A x+pe β x*pe B x
def Cb.left(A B:dF Z):Cb A B A:=⟨1,[1],[],dc,fun x=>by simp only[pe];grind⟩
def Cb.right(A B:dF Z):Cb A B B:=⟨1,[],[1],dc,fun x=>by simp only[pe];grind⟩
def Cb.step{A B a b q r r':dF Z}{m c:Z}(hc:c≠0)(h:∀x,(m:Y)*pe a x=pe q x*pe b x+pe r x)(hr:∀x,pe r x=(c:Y)*pe r' x)(h1:Cb A B a)(h2:Cb A B b):Cb A B r':=by obtain⟨N,α,β,d,h1⟩:=h1;obtain⟨M,γ,δ,e,h2⟩:=h2;refine⟨c*(N*M),Rx (J8 (m*M) α) (J8 (-N) (Lh q γ)),Rx (J8 (m*M) β) (J8 (-N) (Lh q δ)),fun z=>?_,fun x=>?_⟩;{rcases Int.mul_eq_zero.1 z with z|z;{exact hc z};·rcases Int.mul_eq_zero.1 z with z|z<;>contradiction};·simp only[Jd,F4,Q5,aC,bM];grind
def Hn(w:dF Z)(num den:Z)(i:J)(val pw:Z):Prop:=(pw:Y)=pwx (den:Y) (w.length-i)/\∀x,(num:Y)=x*(den:Y)->(den:Y)*(val:Y)=pwx (den:Y) (w.length-i)*pe (w.drop i) x
def Hn.start(w:dF Z)(num den:Z):Hn w num den w.length 0 1:=by refine⟨by rw[Nat.sub_self];rfl,fun x _=>?_⟩;have e:((0:Z):Y)=0:=rfl;rw[List.drop_length,e];simp only[pe];grind
def Hn.step{w:dF Z}{num den val pw:Z}{i:J}(h:Hn w num den (i+1) val pw)(hi:i<w.length):Hn w num den i (val*num+cf w i*pw) (pw*den):=by have e:w.length-i=w.length-(i+1)+1:=o;refine⟨?_,fun x b=>?_⟩;{rw[aC,h.1,e];simp only[pwx];grind};·have c:=h.2 x b;have a:w.drop i=cf w i::w.drop (i+1):=by{simp_all};rw[a,bN,aC,aC,h.1,e];simp only[pwx,pe];grind
def A2k:IV:=⟨false,none,0,0⟩
def Kj:prog.cellsOf 118=2/\(prog.info? 118).isSome=true:=B9r
def WV(h:aI)(A:Option aL)(n:J)(w:dF Z):Prop:=n=w.length/\RowV ZIr h A n (cf w)
def WB(m:J)(w:dF Z):Prop:=∀i,ZB m (cf w i)
def zb0{m:J}:ZB m 0:=ZB.zero
def WV.mono{h h':aI}{A:Option aL}{n:J}{w:dF Z}(r:WV h A n w)(l:h.le h'):WV h' A n w:=⟨r.1,r.2.mono Q8 l⟩
def WV.nil{h:aI}{A:Option aL}:WV h A 0 []:=⟨rfl,RowV.nil⟩
def WB.mono{m k:J}{w:dF Z}(b:WB m w)(h:m<=k):WB k w:=fun i=>(b i).mono h
def B4s{f:Z->Z}(h0:f 0=0)(w:dF Z)(i:J):cf (w.map f) i=f (cf w i):=by grind
def Own.wv{h h':aI}{b n:J}{f:J->Z}{w:dF Z}(o:Own ZIr h h' b n f)(hn:n=w.length)(hf:∀i,i<n->f i=cf w i):WV h' (some ⟨b,0,none⟩) n w:=⟨hn,(o.vis Q8).congr hf⟩
def Sm:∀{w:dF Z},Nz w->trZ w=w:=by
 intro w
 induction w with
 |nil=>intro _;rfl
 |cons c w ih=>
  intro h;have b:Nz w:=fun e=>by have:=h (by simp);grind
  simp only[trZ,ih b];split
  ·rename_i d;obtain⟨a,f⟩:=d;subst f;exact absurd a (h (by simp))
  ·rfl
def A7w:∀w:dF Z,trZ (w++[0])=trZ w:=by
 intro w
 induction w with
 |nil=>rfl
 |cons c w ih=>simp only[List.cons_append,trZ,ih]
def A35{w:dF Z}{k:J}(h:k<w.length):w.take (k+1)=w.take k++[cf w k]:=by simp_all
def C16{w:dF Z}{k:J}(hk:k<=w.length)(h:k≠0->cf w (k-1)≠0):Nz (w.take k):=by intro e;grind
def WB.trZ{m:J}:∀{w:dF Z},WB m w->WB m (trZ w):=by
 intro w
 induction w with
 |nil=>exact fun h=>h
 |cons c w ih=>
  intro h;have a:WB m w:=fun i=>h (i+1);simp only[Go.Proofs.YteppbhimdjmabaaGreatDoor.trZ];split;·grind
  ·intro i
   cases i with
   |zero=>exact h 0
   |succ i=>exact ih a i
def Nz.lead{w:dF Z}(h:Nz w)(h0:w≠[]):cf w (w.length-1)≠0:=by rw[<- Jk h0];exact h h0
def B7t(w:dF Z)(i:J):cf (dl w) i=cf w (i+1)*((1+i:J):Z):=by
 cases w with
 |nil=>simp[dl,cf]
 |cons c w=>exact B4a 1 w i
structure Ct (w:dF Z) (c:Z):Prop where
 nn:0<=c
 dvd:∀ j,c∣cf w j
 most:∀ d,(∀ j,d∣cf w j)->d∣c
structure Pm (w W:dF Z) (c:Z):Prop where
 len:W.length=w.length
 nn:0<=c
 eq:∀ i,cf w i=c*cf W i
 prim:c≠0->C2a W
def Pm.val{w W:dF Z}{c:Z}(p:Pm w W c)(x:Y):pe w x=(c:Y)*pe W x:=by have:w=J8 c W:=by{apply cL (by simp[J8,p.len]);intro i a b;have:=p.eq i;rw[<- Bh]at this;grind};rw[this,F4]
def Pm.pos{w W:dF Z}{c:Z}(p:Pm w W c)(hw:Nz w)(h0:w≠[]):0<c:=by have:=hw.lead h0;rw[p.eq]at this;rcases Int.lt_or_eq_of_le p.nn with h|h;{exact h};grind
def Pm.nz{w W:dF Z}{c:Z}(p:Pm w W c)(hw:Nz w):Nz W:=by intro b;have a:w≠[]:=by{rintro rfl;have:=p.len;grind};have:=hw.lead a;rw[p.eq,<- p.len]at this;grind
def Ct.pm{w:dF Z}{c:Z}(t:Ct w c)(hc:c=0->w.length=0):Pm w (w.map (cI · c)) c:=by have g:(0:Z).tdiv c=0:=cQ c;have b:∀i,cf w i=c*cf (w.map (cI · c)) i:=fun i=>by{rw[B4s g,Int.mul_tdiv_cancel' (t.dvd i)]};refine⟨by simp,t.nn,b,fun a k e=>?_⟩;have:c*k∣c:=t.most _ fun j=>by{rw[b j];exact Int.mul_dvd_mul_left c (e j)};obtain⟨d,l⟩:=this;have f:k*d=1:=by{have:c*(k*d)=c*1:=gz0;exact Int.eq_of_mul_eq_mul_left a this};have:k.natAbs*d.natAbs=1:=by{rw[<- bG,f];rfl};have:=cK this;omega
section
variable {h:aI} {K:VP} {A:Option aL} {n c m:J} {w:dF Z}
def Nx(hn:n<=1000)(hK:K (I ((n:Z)-1)) h):aN prog 203 #[.slice A n c] h K:=by refine(fnk func203) ?_;rw[C0 o o];exact hK
def Di(r:WV h A n w)(hn:n<=1000)(hK:∀s A' n' c',ZI h s A' n' c' (cf w (n-1))->K (.agg #[.bool s,.slice A' n' c']) h):aN prog 122 #[.slice A n c] h K:=by refine(fnk func122 (own:=[2])) ?_;refine D4 (fun e=>?_) (fun e=>?_);{have d:n=0:=o;subst d;have b:w=[]:=aM r.1.symm;subst b;exact hK false none 0 0 ZI.zero};·obtain⟨a,q,rfl,j,g,f⟩:=r.2.zat (i:=n-1) o;rw[show C4 ((n:Z)-1)=((n-1:J):Z) by rw[C0]<;>omega];grind
def Dh(r:WV h A n w)(hn:n<=1000)(hc:n<=c)(hK:∀A' n' c',WV h A' n' (trZ w)->n'<=c'->K (.slice A' n' c') h):aN prog 136 #[.slice A n c] h K:=by refine(fnk func136 [(2,[3],[],[I 0])]) ?_;refine⟨fun L b=>∃k:J,k<=n/\L=[I k]/\b=h/\trZ w=trZ (w.take k),fun L _=>(iAt L 0).toNat,⟨n,aJ _,rfl,rfl,by rw[r.1,List.take_length]⟩,?_⟩;rintro t b ⟨k,u,z,rfl,d⟩;obtain rfl:t=(k:Z):=gz0;have hl:=r.1;have fin:(k≠0->cf w (k-1)≠0)->K (.slice (X9 A c 0 2) ((k:Z).toNat-0) (c-0)) b:=by{intro j;have e:trZ w=w.take k:=by{rw[d];exact Sm (C16 o j)};refine hK _ _ _ ⟨gz0,?_⟩ o;have:=r.2.cut (c:=c) (l:=0) (k:=k) o hc;refine this.congr fun i y=>?_;grind};refine B9 (fun m=>?_) (fun m=>?_);{obtain⟨a,q,rfl,p,s,f⟩:=r.2.zat (i:=k-1) o;rw[show C4 ((k:Z)-1)=((k-1:J):Z) by rw[C0]<;>omega];refine⟨a,rfl,o,o,_,_,_,_,s,f,F6 p ⟨_,rfl,B9 (fun e=>?_) (fun e=>?_)⟩⟩;{refine⟨⟨k-1,o,rfl,rfl,?_⟩,by simp only[U4];omega⟩;have g:w.take k=w.take (k-1)++[0]:=by{have:=A35 (w:=w) (k:=k-1) o;grind};rw[d,g,A7w]};grind};grind
def A2t{s:Bool}{B:Option aL}{bn bc:J}{x:Z}(r:WV h A n w)(i:ZI h s B bn bc x)(hn:n<=1000)(hb:WB m w)(hx:ZB m x)(hm:m<=400000000) (hK:∀A' n' c' h',h.le h'->WV h' A' n' (trZ (J8 x w))->n'<=c'->K (.slice A' n' c') h'):aN prog 65 #[.slice A n c,.agg #[.bool s,.slice B bn bc]] h K:=by refine(fnk func65 [(3,[13],[],[I 0])] (own:=[3,7])) ?_;refine G7 tWh (zx:=A2k) rfl oo oo oo oo ?_;intro b z;refine⟨_,_,_,rfl,fun L j=>∃k:J,k<=n/\L=[I k]/\OwnK ZIr h j b n k (fun i=>cf w i*x),fun L _=>n-(iAt L 0).toNat,⟨0,oo,rfl,OwnK.zero z⟩,?_⟩;rintro t j ⟨k,hk,eL,g,o,xs,f,l,E,e,D⟩;obtain rfl:t=(k:Z):=gz0;refine B9 (fun G=>?_) (fun F=>?_);{have d:k<n:=oo;obtain⟨a,q,rfl,R,N,O⟩:=(r.2.mono Q8 f).zat d;refine⟨a,rfl,oo,oo,_,_,_,_,(C2 l.le N),(C2 l.le O),?_⟩;refine l.call (I6 R (i.mono f) (hb k) hx oo ?_);intro Q A2 T c2 X S M V u;refine⟨_,_,_,_,rfl,_,rfl,oo,oo,?_⟩;refine OwnK.store Q8 Kj (y:=(⟨Q,A2,T,c2⟩:IV)) f S u E e D d rfl M ?_;intro h3 p;rw[wiS k oo];exact⟨⟨k+1,oo,rfl,p⟩,by simp only[U4];omega⟩};·obtain rfl:k=n:=oo;have p:Own ZIr h j b k (fun i=>cf w i*x):=⟨g,o,xs,f,l,E,e,D⟩;have wv:WV j (some ⟨b,0,none⟩) k (J8 x w):=p.wv (by simp[J8,r.1]) (fun i _=>by rw[Bh,aT]);refine Dh wv hn (aJ _) ?_;intro A3 W c3 H C;exact⟨_,_,_,rfl,hK _ _ _ _ p.le H C⟩
def Gv(r:WV h A n w)(hn:n<=1000)(hb:WB m w)(hm:m<=400000000)(hm1:10<=m) (hK:∀A' n' c' h',h.le h'->WV h' A' n' (dl w)->n'<=c'->K (.slice A' n' c') h'):aN prog 110 #[.slice A n c] h K:=by refine(fnk func110 [(5,[14],[],[I 0])]) ?_;refine D4 (fun e=>?_) (fun e=>?_);{have Q:n=0:=oo;subst Q;have V:w=[]:=aM r.1.symm;subst V;exact hK none 0 0 h (B8 _) WV.nil (aJ _)};·rw[show C4 ((n:Z)-1)=((n-1:J):Z) by rw[C0]<;>omega];refine G7 tWh (zx:=A2k) rfl oo oo oo oo ?_;intro b B;refine⟨_,_,_,rfl,fun L z=>∃k:J,k<=n-1/\L=[I k]/\OwnK ZIr h z b (n-1) k (cf (dl w)),fun L _=>n-1-(iAt L 0).toNat,⟨0,oo,rfl,OwnK.zero B⟩,?_⟩;rintro t z ⟨k,hk,eL,g,o,xs,u,l,G,f,E⟩;obtain rfl:t=(k:Z):=gz0;refine B9 (fun N=>?_) (fun M=>?_);{have s:k<n-1:=oo;rw[wiS k oo];obtain⟨a,q,rfl,X,R,S⟩:=(r.2.mono Q8 u).zat (i:=k+1) oo;refine⟨a,rfl,oo,oo,_,_,_,_,(C2 l.le R),(C2 l.le S),?_⟩;refine l.call (O0 oo oo ?_);intro s2 A2 n2 c2 g2 C O h2 d;refine⟨_,_,_,_,rfl,l.grow d C,?_⟩;have T:ZB m (((k+1:J):Z)):=by{have:ZB 10 (((k+1:J):Z)):=by{unfold ZB;omega};exact this.mono hm1};refine d.call (I6 (X.mono C) O (hb (k+1)) T oo ?_);intro H A3 D c3 g3 F W h3 j;refine⟨_,_,_,_,rfl,d.grow j F,_,rfl,oo,oo,?_⟩;refine OwnK.store Q8 Kj (y:=(⟨H,A3,D,c3⟩:IV)) u (B6 C F) j G f E s rfl (by show ZI g3 H A3 D c3 (cf (dl w) k);rw[B7t,cD 1 k];exact W) ?_;intro h4 p;exact⟨⟨k+1,oo,rfl,p⟩,by simp only[U4];omega⟩};·obtain rfl:k=n-1:=oo;have p:Own ZIr h z b (n-1) (cf (dl w)):=⟨g,o,xs,u,l,G,f,E⟩;exact hK _ _ _ _ p.le (p.wv (by rw[Jp,r.1]) (fun i _=>rfl)) (aJ _)
def Xw(gl:Gtz h)(r:WV h A n w)(hn:n<=1000)(hb:WB m w)(hm:m<=400000000) (hK:∀x A' n' c' h',h.le h'->ZI h' false A' n' c' x->Ct w x->ZB m x->K (.agg #[.bool false,.slice A' n' c']) h'):aN prog 195 #[.slice A n c] h K:=by refine(fnk func195 [(3,[4],[(3,2)],[I 0,.bool false,.slice none 0 0])] (own:=[2,3])) ?_;refine⟨fun L u=>∃(k:J) (A':Option aL) (n' c':J) (x:Z),k<=n/\L=[I ((k:Z)-1),.bool false,.slice A' n' c']/\h.le u/\ZI u false A' n' c' x/\0<=x/\ZB m x/\(∀j,k<=j->x∣cf w j)/\(∀d,(∀j,k<=j->d∣cf w j)->d∣x),fun L _=>(iAt L 0+1).toNat,⟨n,none,0,0,0,aJ _,by rw[C0 o o],B8 _,ZI.zero,o,zb0,fun j B=>?_,fun d _=>Int.dvd_zero d⟩,?_⟩;{rw[Zx (by have:=r.1;omega)];grind};rintro t V A1 W c1 u ⟨k,A',n',c',x,T,M,l,s,y,b,p,f⟩;obtain⟨rfl,rfl,rfl,rfl,rfl⟩:=M;refine B9 (fun E=>?_) (fun D=>?_);{refine O1 s ⟨_,rfl,Br.of (fun Q=>?_) (fun Q=>?_)⟩;{obtain⟨a,q,rfl,O,G,H⟩:=(r.2.mono Q8 l).zat (i:=k-1) o;rw[show((k:Z)-1)=((k-1:J):Z)from o];refine⟨a,rfl,o,o,_,_,_,_,G,H,?_⟩;refine Bp (gl.mono l) s O b (hb (k-1)) o ?_;intro A2 R c2 S C F;refine⟨_,_,_,_,rfl,C,⟨k-1,A2,R,c2,_,o,by rw[C0 o o],B6 l C,F,o,?_,fun j B=>?_,fun d g=>?_⟩,by simp only[U4];rw[C0 o o];omega⟩;{by_cases N:x=0;{have:=hb (k-1);unfold ZB at this ⊢;simp_all};·unfold ZB at b ⊢;have:=Int.gcd_le_natAbs_left (cf w (k-1)) N;omega};{rcases Nat.lt_or_ge j k with z|z;{have:j=k-1:=o;subst this;exact Int.gcd_dvd_right _ _};·exact Int.dvd_trans (Int.gcd_dvd_left _ _) (p j z)};·exact Int.dvd_coe_gcd (f d fun j B=>g j o) (g (k-1) o)};·have e:x=1:=gz0;subst e;exact hK 1 _ _ _ _ l s ⟨o,fun j=>Int.one_dvd _,fun d g=>f d fun j _=>g j⟩ b};·exact hK x _ _ _ _ l s ⟨y,fun j=>p j o,fun d g=>f d fun j _=>g j⟩ b
def B9g{m:J}{x y:Z}(h:ZB m x):ZB m (x.tdiv y):=by unfold ZB at h ⊢;have:=Int.natAbs_tdiv_le_natAbs x y;omega
def WB.divide{x:Z}(hb:WB m w):WB m (w.map (cI · x)):=fun i=>by rw[B4s (cQ x)];exact B9g (hb i)
def A0d{s:Bool}{B:Option aL}{bn bc:J}{x:Z}(r:WV h A n w)(i:ZI h s B bn bc x)(hn:n<=1000)(hb:WB m w)(hx:ZB m x)(hm:m<=400000000)(h0:x=0->n=0)(hc:n<=c) (hK:∀A' c' h',h.le h'->WV h' A' n (w.map (cI · x))->n<=c'->K (.slice A' n c') h'):aN prog 194 #[.slice A n c,.agg #[.bool s,.slice B bn bc]] h K:=by refine(fnk func194 [(5,[16],[],[I 0])] (own:=[3,7])) ?_;refine O1 i ⟨_,rfl,B9 (fun e=>?_) (fun e=>?_)⟩;{subst e;have:w.map (cI · 1)=w:=by{simp};exact hK _ _ _ (B8 _) gz0 hc};·refine G7 tWh (zx:=A2k) rfl oo oo oo oo ?_;intro b D;refine⟨_,_,_,rfl,fun L C=>∃k:J,k<=n/\L=[I k]/\OwnK ZIr h C b n k (fun i=>(cf w i).tdiv x),fun L _=>n-(iAt L 0).toNat,⟨0,oo,rfl,OwnK.zero D⟩,?_⟩;rintro t C ⟨k,X,eL,g,o,xs,l,p,F,j,E⟩;obtain rfl:t=(k:Z):=gz0;refine B9 (fun H=>?_) (fun G=>?_);{have d:k<n:=oo;obtain⟨a,q,rfl,R,N,O⟩:=(r.2.mono Q8 l).zat d;refine⟨a,rfl,oo,oo,_,_,_,_,(C2 p.le N),(C2 p.le O),?_⟩;refine p.call (R3 R (i.mono l) (hb k) hx oo (fun e'=>oo) ?_);intro Q A2 T c2 W S M V z;refine⟨_,_,_,_,rfl,_,rfl,oo,oo,?_⟩;refine OwnK.store Q8 Kj (y:=(⟨Q,A2,T,c2⟩:IV)) l S z F j E d rfl M ?_;intro h3 u;rw[wiS k oo];exact⟨⟨k+1,oo,rfl,u⟩,by simp only[U4];omega⟩};·obtain rfl:k=n:=oo;have u:Own ZIr h C b k (fun i=>(cf w i).tdiv x):=⟨g,o,xs,l,p,F,j,E⟩;exact hK _ _ _ u.le (u.wv (by simp[r.1]) (fun i _=>(B4s (f:=(cI · x)) (cQ x) w i).symm)) (aJ _)
def O8(gl:Gtz h)(r:WV h A n w)(hz:Nz w)(hn:n<=1000)(hb:WB m w)(hm:m<=400000000)(hc:n<=c) (hK:∀W x A' c' h',h.le h'->WV h' A' n W->Pm w W x->WB m W->n<=c'->K (.slice A' n c') h'):aN prog 120 #[.slice A n c] h K:=by refine(fnk func120) ?_;refine Xw gl r hn hb hm ?_;intro x A1 p c1 q b i1 f k;have d:x=0->n=0:=by{rintro rfl;rcases Nat.eq_zero_or_pos n with e|e;{exact e};·have g:w≠[]:=by{rintro rfl;have:=r.1;grind};exact absurd (Int.zero_dvd.1 (f.dvd (w.length-1))) (hz.lead g)};refine⟨_,_,_,_,rfl,A0d (r.mono b) i1 hn hb k hm d hc ?_⟩;intro A2 c2 l i j a;exact⟨_,_,_,rfl,hK _ x _ _ _ (B6 b i) j (f.pm (fun e=>by rw[<- r.1];exact d e)) hb.divide a⟩
end
def C5t{o:aI}{b i:J}{ws:dF IV}(rb:RowB o b ws)(hi:i<ws.length):o.cell? (aE (aE ⟨b,0,none⟩ (i*2)) 0)=some (.bool ws[i].s)/\o.cell? (aE (aE ⟨b,0,none⟩ (i*2)) 1)=some (.slice ws[i].A ws[i].n ws[i].c):=by have d:=RowB.cell rb hi (j:=0) (v:=.bool ws[i].s) rfl;have a:=RowB.cell rb hi (j:=1) (v:=.slice ws[i].A ws[i].n ws[i].c) rfl;rw[Qb,Qb,Cf,Cf,aS,aS];exact⟨d,a⟩
def RowB.take{α:Type}[E:Enc α]{o:aI}{b:J}{xs:dF α}(r:RowB o b xs)(k:J):RowB o b (xs.take k):=by obtain⟨e,ex,a⟩:=r;refine⟨e,(xs.drop k).flatMap enc++ex,?_⟩;rw[a,<- cH,<- List.flatMap_append,aO]
structure Two (h g o:aI) (bq br nq nr:J) (q r:J->Z):Prop where
 sep:Sep h g o
 ne:bq≠br
 rq:∃ xs:dF IV,RowX o bq xs/\xs.length=nq/\Row ZIr g xs nq q
 rr:∃ xs:dF IV,RowB o br xs/\xs.length=nr/\Row ZIr g xs nr r
section
variable {h g o h' g':aI} {bq br nq nr:J} {q r:J->Z}
def Two.next(t:Two h g o bq br nq nr q r)(s:Sep h' g' o)(l:g.le g'):Two h' g' o bq br nq nr q r:=by obtain⟨xs,d,c,f⟩:=t.rq;obtain⟨b,a,e,i⟩:=t.rr;exact⟨s,t.ne,⟨xs,d,c,f.mono Q8 l⟩,⟨b,a,e,i.mono Q8 l⟩⟩
def Two.congr{q' r':J->Z}(t:Two h g o bq br nq nr q r)(e1:∀i,i<nq->q i=q' i)(e2:∀i,i<nr->r i=r' i):Two h g o bq br nq nr q' r':=by obtain⟨xs,d,c,f⟩:=t.rq;obtain⟨b,a,e,j⟩:=t.rr;exact⟨t.sep,t.ne,⟨xs,d,c,f.congr e1⟩,⟨b,a,e,j.congr e2⟩⟩
def Two.shrink(t:Two h g o bq br nq nr q r){k:J}(hk:k<=nr):Two h g o bq br nq k q r:=by obtain⟨b,a,f,c⟩:=t.rr;refine⟨t.sep,t.ne,t.rq,b.take k,a.take k,gz0,fun i j=>?_⟩;obtain⟨w,e,d⟩:=c i oo;grind
def Two.qat(t:Two h g o bq br nq nr q r){i:J}(hi:i<nq):∃w:IV,ZIr g w (q i)/\o.cell? (aE (aE ⟨bq,0,none⟩ (i*2)) 0)=some (.bool w.s)/\o.cell? (aE (aE ⟨bq,0,none⟩ (i*2)) 1)=some (.slice w.A w.n w.c):=by obtain⟨xs,a,d,b⟩:=t.rq;have:=C5t a.rowB (i:=i) oo;exact⟨xs[i],b.get hi oo,this.1,this.2⟩
def Two.rat(t:Two h g o bq br nq nr q r){i:J}(hi:i<nr):∃w:IV,ZIr g w (r i)/\o.cell? (aE (aE ⟨br,0,none⟩ (i*2)) 0)=some (.bool w.s)/\o.cell? (aE (aE ⟨br,0,none⟩ (i*2)) 1)=some (.slice w.A w.n w.c):=by obtain⟨xs,a,d,b⟩:=t.rr;have:=C5t a (i:=i) oo;exact⟨xs[i],b.get hi oo,this.1,this.2⟩
def Two.storeQ(t:Two h g o bq br nq nr q r){i:J}(hi:i<nq){w:IV}{y:Z}(z:ZIr g w y){K:Unit->aI->Prop} (x:∀h' o',Two h' g o' bq br nq nr (fun j=>if j=i then y else q j) r->K () h'):wpH prog (aX 118 (.pointer (some (aE ⟨bq,0,none⟩ (i*2)))) w.v) K h:=by obtain⟨xs,e,p,k⟩:=t.rq;obtain⟨c,b,f,l⟩:=t.rr;refine P7 Kj (y:=w) rfl t.sep e oo ?_;rintro n s m rfl d a;exact x _ _ ⟨d,t.ne,⟨_,a,gz0,k.upd oo z⟩,⟨c,b.other t.ne.symm m,f,l⟩⟩
def Two.storeR(t:Two h g o bq br nq nr q r){i:J}(hi:i<nr){w:IV}{y:Z}(z:ZIr g w y){K:Unit->aI->Prop} (x:∀h' o',Two h' g o' bq br nq nr q (fun j=>if j=i then y else r j)->K () h'):wpH prog (aX 118 (.pointer (some (aE ⟨br,0,none⟩ (i*2)))) w.v) K h:=by obtain⟨xs,d,e,f⟩:=t.rq;obtain⟨m,b,p,k⟩:=t.rr;rw[Cf,aS];refine Sep.store Kj (y:=w) rfl t.sep b (i:=i) oo rfl ?_;rintro n s l rfl c a;exact x _ _ ⟨c,t.ne,⟨xs,d.other t.ne l,e,f⟩,⟨_,a,gz0,k.upd oo z⟩⟩
def Two.visQ(t:Two h g o bq br nq nr q r):RowV ZIr h (some ⟨bq,0,none⟩) nq q:=by obtain⟨xs,b,a,c⟩:=t.rq;exact⟨xs,b.rowB.slF t.sep.ole,a,c.mono Q8 t.sep.le⟩
def Two.visR(t:Two h g o bq br nq nr q r):RowV ZIr h (some ⟨br,0,none⟩) nr r:=by obtain⟨xs,b,a,c⟩:=t.rr;exact⟨xs,b.slF t.sep.ole,a,c.mono Q8 t.sep.le⟩
def A2x{e e':aQ}(hb:h bq=none){zs:dF IV}{A:Option aL}{c:J}{xs:dF IV}{g1 h1:aI}(l:(A59 e h bq zs).le g1)(p:PrivF h1 g1 e' A c xs)(hne:xs≠[])(hz:Row ZIr h zs zs.length q)(hx:Row ZIr h xs xs.length r):∃br g o,A=some ⟨br,0,none⟩/\h.le g/\Two h1 g o bq br zs.length xs.length q r:=by obtain⟨br,x,n,a,j,s,k⟩:=B59 p hne;obtain⟨g0,b,t,rfl⟩:=B0z hb l;have ne:bq≠br:=by{rintro rfl;unfold A59 at a;rw[C3]at a;cases a};subst j;have m:Sep (A59 e g0 bq zs) g0 (Ag.put bq (.cells (zs.flatMap enc).toArray e)):=S3 t;have i:=m.new a x;refine⟨br,g0,_,n,b,i,ne,⟨zs,RowX.other RowX.mk ne x,rfl,hz.mono Q8 b⟩,⟨xs,?_,rfl,hx.mono Q8 b⟩⟩;obtain⟨f,ex,d⟩:=k;rw[C3]at d;exact⟨f,ex,by rw[C3];exact d⟩
end
section
variable {h:aI} {K:VP} {A B:Option aL} {n c k d mw mv:J} {w v:dF Z}
def WB.row{m n:J}{z:J->Z}(h:∀i,i<n->ZB m (z i)):WB m ((bF n).map z):=fun i=>by by_cases a:i<n;{grind};·rw[Zx gz0];exact zb0
def B1g{h:aI}{A:Option aL}{n:J}{z:J->Z}(r:RowV ZIr h A n z):WV h A n ((bF n).map z):=⟨by simp,r.congr fun i a=>(Zw z a).symm⟩
def Nw(r:WV h A n w)(rv:WV h B k v)(hw:Nz w)(hv:Nz v)(hn:n<=1000)(hk:k<=1000)(hc:n<=c)(hbw:WB mw w)(hbv:WB mv v)(hT:mw+(n+1)*(mv+1)<=40000000)
 (hK:∀(q R:dF Z) (m:Z) A1 n1 c1 A2 n2 c2 (z:IV) h',h.le h'->WV h' A1 n1 q->WV h' A2 n2 R->n2<=c2->ZIr h' z m->m≠0->(∀x,(m:Y)*pe w x=pe q x*pe v x+pe R x)->Nz R->(v≠[]->R.length<v.length)->WB (mw+(n-k+1)*(mv+1)) R->WB (mw+(n-k+1)*(mv+1)) q->ZB (1+(n-k+1)*mv) m->q.length<=n->K (.tuple #[.slice A1 n1 c1,.slice A2 n2 c2,z.v]) h'):
 aN prog 64 #[.slice A n c,.slice B k d] h K:=by
 refine(fnk func64 [(8,[10,11],[(7,2)],[.slice none 0 0,I 0,.bool false,.slice none 0 0]),(16,[73],[],[I 0]),(22,[97],[],[I 0])] (cs:=[(20,[],[(7,2)],[.bool false,.slice none 0 0]),(28,[],[],[])]) (os:=[(30,[0,2,4,1,3,5,6,7])]) (own:=[6,7,8,12]) (wr:=[127,135])) ?_;refine O0 oo oo ?_;intro s1 A1 n1 c1 h1 l1 i1
 have same:(v≠[]->w.length<v.length)->K (.tuple #[.slice none 0 0,.slice A n c,.agg #[.bool s1,.slice A1 n1 c1]]) h1:=fun W=>
  hK [] w 1 none 0 0 A n c ⟨s1,A1,n1,c1⟩ h1 l1 WV.nil (r.mono l1) hc i1 dc (fun x=>by rw[show((1:Z):Y)=1 from rfl];simp only[pe];grind) hw W (hbw.mono oo) (fun i=>by rw[Zx (by simp)];exact zb0) (ZB.one oo) (by simp);refine⟨_,_,_,_,rfl,D4 (fun e=>?_) (fun e=>B9 (fun e1=>?_) (fun e1=>?_))⟩
 ·have ao:v=[]:=aM (by have:=rv.1;omega);grind
 ·exact same fun _=>by have:=r.1;have:=rv.1;omega
 have rl:=r.1;have vl:=rv.1;obtain⟨nv,rfl⟩:∃nv,k=nv+1:=⟨k-1,oo⟩;obtain⟨nq,hnq⟩:∃nq,nq=n-(nv+1)+1:=⟨_,rfl⟩;rw[<- hnq]at hK;have ao:v≠[]:=gz0;refine Di (rv.mono l1) hk ?_;intro sl Al nl cl il;rw[aV]at il;refine⟨_,_,_,_,rfl,?_⟩;rw[show C4 (C4 ((n:Z)-((nv+1:J):Z))+1)=(nq:Z) by rw[C0 (n:=(n:Z)-((nv+1:J):Z)) oo oo,C0]<;>omega];refine G7 tWh (zx:=A2k) rfl oo oo oo oo ?_;intro bq an;rw[bI];refine⟨_,_,_,rfl,?_⟩;refine Fd tWh ?_;intro b2 al;refine⟨_,_,_,rfl,?_⟩;obtain⟨xs,sx,xl,rx⟩:=r.2.mono Q8 l1;refine R9 tWh (PrivF.nil _ 118 _) (ys:=xs) xl.symm (sx.mono (B6 (A26 an _) (Heap.le_put _ al))) gz0 gz0 ?_;intro A4 c4 h4 g4 F p4;rw[bO]at p4;rw[bO,xl];have aq:xs≠[]:=gz0;obtain⟨br,g,o,rfl,lg,aw⟩:=A2x (q:=fun _=>0) (r:=cf w) an (B6 (Heap.le_put _ al) F) p4 aq (fun i f=>⟨A2k,gz0,ZI.zero⟩) gz0;rw[List.length_replicate,xl]at aw;have bn:n<=c4:=by rw[<- xl];exact p4.2.1
 have l:=hv.lead ao;rw[<- vl,aV]at l;obtain⟨lead,hlead⟩:∃z,z=cf v nv:=⟨_,rfl⟩;rw[<- hlead]at il l;have bl:ZB mv lead:=by rw[hlead];exact hbv nv
 have ad:nv+nq=n:=oo
 have hβ:∀j,j<=nq->mw+j*(mv+1)<=40000000:=fun j hj=>by
  have:=aH (mv+1) (show j<=n+1 from oo);omega
 have bz:mv<=40000000:=by
  grind
 have hμ:∀j,j<=nq->1+j*mv<=40000001:=fun j hj=>by
  grind
 refine⟨_,_,_,rfl,fun L hp=>∃(k:J) (g' o':aI) (z:IV) (m:Z) (q r:J->Z),k<=nq/\L=[.slice (some ⟨br,0,none⟩) (nv+k) c4,I ((k:Z)-1),.bool z.s,.slice z.A z.n z.c]/\g.le g'/\Two hp g' o' bq br nq (nv+k) q r/\ZIr g' z m/\PQ (pe w) (fun x=>ps (cf v) x (nv+1)) nv nq k m q r/\(∀i,i<nq->ZB (mw+(nq-k)*(mv+1)) (q i))/\(∀i,i<nv+k->ZB (mw+(nq-k)*(mv+1)) (r i))/\ZB (1+(nq-k)*mv) m,fun L _=>(iAt L 1+1).toNat,
  ⟨nq,g,o,⟨s1,A1,n1,c1⟩,1,fun _=>0,cf w,aJ _,by rw[ad,C0 oo oo],B8 _,gz0,i1.mono lg,PQ.start (fun _ _=>rfl) (fun x=>by rw[ad,rl];exact(Vr w x).symm),fun _ _=>zb0,fun i _=>(hbw i).mono oo,by rw[Nat.sub_self];exact ZB.one oo⟩,?_⟩;rintro ar a9 ag kz m0 bd bf bu hp ⟨k,g1,o1,z,m,q,u,bw,eL,N,t,iz,pq,H,E,bm⟩;simp only[List.cons.injEq,Value.int.injEq,Value.bool.injEq,Value.slice.injEq,true_and,and_true]at eL;obtain⟨⟨rfl,rfl,rfl⟩,rfl,rfl,rfl,rfl,rfl⟩:=eL;refine B9 (fun bx=>?_) (fun W=>?_)
 ·obtain⟨j,rfl⟩:∃j,k=j+1:=⟨k-1,oo⟩;rw[show((j+1:J):Z)-1=(j:Z)from oo];have ei:C4 (C4 (((nv+1:J):Z)-1)+(j:Z))=((nv+j:J):Z):=by rw[C0 (n:=((nv+1:J):Z)-1) oo oo,C0]<;>omega
  have ej:C4 ((j:Z)-1)=(j:Z)-1:=C0 oo oo;have ec:X9 (some ⟨br,0,none⟩) ag 0 2=some ⟨br,0,none⟩:=by rw[Gb oo];rfl
  rw[ei,ej,ec];obtain⟨tw,zt,f0,f1⟩:=t.rat (i:=nv+j) oo;refine⟨_,rfl,oo,oo,_,_,_,_,t.sep.cell f0,t.sep.cell f1,⟨oo,oo⟩,?_⟩;have ts:=t.shrink (k:=nv+j) oo;have bi:nq-j=(nq-(j+1))+1:=oo;have hβ1:mw+(nq-j)*(mv+1)=mw+(nq-(j+1))*(mv+1)+(mv+1):=gz0;have hμ1:1+(nq-j)*mv=1+(nq-(j+1))*mv+mv:=gz0;have b1:=hβ (nq-j) oo;have b2:=hμ (nq-j) oo;generalize hT:mw+(nq-(j+1))*(mv+1)=T at *;generalize hU:1+(nq-(j+1))*mv=U at *;have bt:=E (nv+j) oo;refine F6 (zt.mono t.sep.le) ⟨_,rfl,B9 (fun e0=>?_) (fun e0=>?_)⟩;·refine⟨⟨j,g1,o1,z,m,q,u,oo,rfl,N,ts,iz,pq.skip e0,fun i f=>(H i f).mono oo,fun i f=>(E i oo).mono oo,bm.mono oo⟩,by show((j:Z)-1+1).toNat<((j:Z)+1).toNat;omega⟩
  ·have O:ZI g1 sl Al nl cl lead:=il.mono (B6 lg N);refine⟨fun L hq=>∃(g2 o2:aI) (z2:IV) (q2:J->Z),L=[.bool z2.s,.slice z2.A z2.n z2.c]/\g1.le g2/\Two hq g2 o2 bq br nq (nv+j) q2 u/\ZIr g2 z2 (m*lead)/\∀i,i<nq->q2 i=lead*q i,?_,?_⟩
   ·refine O1 (O.mono t.sep.le) ⟨_,rfl,Br.of (fun e1=>?_) (fun e1=>?_)⟩
    ·refine ts.sep.call (I6 iz O (bm.mono (show U<=U+mv from oo)) (bl.mono oo) oo ?_);intro s2 A2 n2 c2 g2 l2 i2 h2 a6;refine⟨_,_,_,_,rfl,fun L hq=>∃(t:J) (p o3:aI),t<=nq/\L=[I t]/\g2.le p/\Two hq p o3 bq br nq (nv+j) (fun i=>if i<t then lead*q i else q i) u,fun L _=>nq-(iAt L 0).toNat,⟨0,g2,o1,oo,rfl,B8 _,(ts.next a6 l2).congr (fun i _=>oo) (fun _ _=>rfl)⟩,?_⟩;rintro tz hq ⟨a,p,o3,ht,az,V,D⟩;obtain rfl:tz=(a:Z):=gz0;refine B9 (fun W=>?_) (fun am=>?_)
     ·have C:a<nq:=oo;obtain⟨w5,z5,d0,d1⟩:=D.qat C;rw[iN oo]at z5;refine⟨_,rfl,oo,oo,_,_,_,_,D.sep.cell d0,D.sep.cell d1,?_⟩;refine D.sep.call (I6 z5 (O.mono (B6 l2 V)) ((H a C).mono (show T<=T+mv from oo)) (bl.mono oo) oo ?_);intro s6 A6 n6 c6 g6 l6 i6 h6 Q;refine⟨_,_,_,_,rfl,D.sep.grow Q l6,_,rfl,oo,oo,?_⟩;refine(D.next Q l6).storeQ (i:=a) C (w:=⟨s6,A6,n6,c6⟩) i6 ?_;intro h7 o7 t7;refine⟨⟨a+1,g6,o7,oo,by rw[C0 oo oo];rfl,B6 V l6,t7.congr (fun i f=>?_) (fun _ _=>rfl)⟩,by simp only[U4];rw[C0 oo oo];omega⟩;grind
     ·exact⟨p,o3,⟨s2,A2,n2,c2⟩,_,rfl,B6 l2 V,D,i2.mono V,fun i f=>iP oo⟩
    ·have e:lead=1:=gz0;exact⟨g1,o1,z,q,rfl,B8 _,ts,gz0,fun i _=>gz0⟩
   ·rintro bj bc bb ba hq ⟨g2,o2,z2,q2,ah,l2,t2,au,a5⟩;simp only[List.cons.injEq,Value.bool.injEq,Value.slice.injEq,true_and,and_true]at ah;obtain⟨rfl,rfl,rfl,rfl⟩:=ah;have X:j<nq:=oo;obtain⟨w5,z5,d0,d1⟩:=t2.qat X;refine⟨_,rfl,oo,oo,_,_,_,_,t2.sep.cell d0,t2.sep.cell d1,?_⟩;have a7:∀i,i<nq->ZB (mv+T) (q2 i):=fun i f=>by rw[a5 i f];exact bl.mul (H i f)
    refine t2.sep.call (Fm z5 (zt.mono l2) (a7 j X) (bt.mono oo) oo ?_);intro s6 A6 n6 c6 g6 l6 i6 h6 Q;refine⟨_,_,_,_,rfl,t2.sep.grow Q l6,_,rfl,oo,oo,?_⟩;refine(t2.next Q l6).storeQ (i:=j) X (w:=⟨s6,A6,n6,c6⟩) i6 ?_;intro h7 o7 t7;have ac:g1.le g6:=B6 l2 l6;refine⟨fun L hq=>∃(t:J) (p o3:aI),t<=nv+j/\L=[I t]/\g6.le p/\Two hq p o3 bq br nq (nv+j) (fun i=>if i=j then q2 j+u (nv+j)else q2 i) (fun i=>if i<t then u i*lead-(if j<=i then u (nv+j)*cf v (i-j)else 0)else u i),fun L _=>nv+j-(iAt L 0).toNat,⟨0,g6,o7,oo,rfl,B8 _,t7.congr (fun _ _=>rfl) (fun i _=>oo)⟩,?_⟩;rintro tz hr ⟨a,p,o3,ht,az,V,D⟩;obtain rfl:tz=(a:Z):=gz0;rw[bI,Nat.sub_zero];refine B9 (fun W=>?_) (fun am=>?_)
    ·have C:a<nv+j:=oo;refine An Tw ?_;intro bs ae
     have a8:p bs=none:=by
      cases hx:p bs with
      |none=>rfl
      |some y=>rw[D.sep.le _ _ hx]at ae;cases ae
     have s2:=D.sep.vis ae (.cells #[.slice none 0 0,.slice none 0 0] 217);have Z0:SumS (p.put bs (.cells #[.slice none 0 0,.slice none 0 0] 217)) p bs 217 200000001 0 0:=SumS.zero a8;obtain⟨w8,z8,a0,a1⟩:=D.rat C;rw[iN oo]at z8;have aa:∀{gg:aI} {w:IV} {x:Z},ZIr gg w x->ZB (T+mv+1) x->w.n<=100000000:=fun i b=>ZI.len i b oo;have b8:=(E a oo).mono (show T<=T+mv+1 from oo);have ai:=bl.mono (show mv<=T+mv+1 from oo);have aj:=bt.mono (show T<=T+mv+1 from oo);have q1:=Ms b8 ai;have q0:=A1f (m:=T+mv+1) (k:=2) oo oo;have n8:=aa z8 b8;have be:=aa (w:=⟨sl,Al,nl,cl⟩) O ai;have nt:=aa zt aj;refine⟨_,rfl,_,rfl,oo,oo,_,_,_,_,s2.cell a0,s2.cell a1,?_⟩;have af:g1.le p:=B6 ac V;refine s2.call (O9 Z0 z8 (O.mono af) gz0 oo (N1:=T+mv+1) oo oo ?_);intro G3 g4 F Z3 H3 s3;refine⟨rfl,fun L hq=>∃G g5 M,L=[]/\p.le g5/\SumS G g5 bs 217 200000001 M (u a*lead-(if j<=a then u (nv+j)*cf v (a-j)else 0))/\Sep hq G o3,?_,?_⟩
     ·refine B9 (fun bo=>?_) (fun bp=>?_)
      ·have e9:C4 ((a:Z)-(j:Z))=((a-j:J):Z):=by rw[C0]<;>omega
       rw[e9];have ax:a-j<nv+1:=oo;obtain⟨av,wv,rfl,zv,v0,v1⟩:=(rv.2.mono Q8 (B6 l1 (B6 lg (B6 N (B6 af F))))).zat ax;have bv:=(hbv (a-j)).mono (show mv<=T+mv+1 from oo);have bh:=aa zv bv;have b4:=Ms aj bv;refine⟨_,rfl,oo,oo,_,_,_,_,C2 (B6 Z3.le s3.le) v0,C2 (B6 Z3.le s3.le) v1,?_⟩;refine s3.call (Ht Z3 (zt.mono (B6 af F)) zv oo oo (N1:=T+mv+1) oo oo ?_);intro G5 g5 S Z5 H5 s5;simp only[cZ]at Z5;exact⟨rfl,G5,g5,_,rfl,B6 F S,by rw[iP oo];exact Z5,s5⟩
      grind
     ·rintro bg ⟨G5,g5,M5,_,S,Z5,s5⟩;refine s5.call (Cp Z5 oo ?_);intro sv Av a2 cv G6 ak z6 H6 s6;refine⟨_,_,_,_,rfl,_,rfl,oo,oo,?_⟩;have t6:=D.next s6 (B6 S (B6 Z5.le ak));refine t6.storeR C (w:=⟨sv,Av,a2,cv⟩) z6 ?_;intro H7 ay t8;refine⟨⟨a+1,G6,ay,oo,by rw[C0 oo oo];rfl,B6 V (B6 S (B6 Z5.le ak)),t8.congr (fun _ _=>rfl) (fun i f=>?_)⟩,by simp only[U4];rw[C0 oo oo];omega⟩;by_cases bk:i=a;·grind
      omega
    ·have e8:a=nv+j:=oo;subst e8
     have ap:∀i,i<nq->(if i=j then q2 j+u (nv+j)else q2 i)=lead*q i+(if i=j then u (nv+j)else 0):=fun i f=>by
      grind
     refine⟨⟨j,p,o3,z2,m*lead,_,_,oo,rfl,B6 N (B6 ac V),D,au.mono (B6 l6 V),pq.step X hlead l rfl rfl ap (fun i f=>iP f),fun i f=>?_,fun i f=>?_,?_⟩,by show((j:Z)-1+1).toNat<((j:Z)+1).toNat;omega⟩
     ·rw[ap i f];have x1:=bl.mul (H i f)
      have x2:ZB (mv+T) (if i=j then u (nv+j)else 0):=by
       split;·exact bt.mono oo
       ·exact zb0
      exact(x1.add x2).mono oo
     ·show ZB _ (if i<nv+j then _ else _);rw[iP f];have x1:=(E i oo).mul bl
      have x2:ZB (T+mv) (if j<=i then u (nv+j)*cf v (i-j)else 0):=by
       split;·exact bt.mul (hbv _)
       ·exact zb0
      exact(x1.sub x2).mono oo
     ·rw[hμ1];exact bm.mul bl
 ·obtain rfl:k=0:=oo;refine Dh (B1g t.visQ) oo (aJ _) ?_;intro A5 n5 c5 w5 _;refine⟨_,_,_,rfl,B8 _,?_⟩;refine Dh (B1g t.visR) oo oo ?_;intro A6 n6 c6 w6 a3;refine⟨_,_,_,rfl,B8 _,?_⟩;refine hK _ _ m _ _ _ _ _ _ z _ (B6 l1 (B6 lg (B6 N t.sep.le))) w5 w6 a3 (iz.mono t.sep.le) pq.1 (fun x=>?_) (Hs _) (fun _=>?_) ?_ ?_ oo ?_
  ·have e:=pq.2 x;dsimp only at e;rw[vl,Vr]at e;rw[Cj,Cj,A40,A40,e]
  ·have:=A61 ((bF (nv+0)).map u);grind
  ·exact(WB.row E).trZ
  ·exact(WB.row H).trZ
  ·have:=A61 ((bF nq).map q);grind
end
end Go.Proofs.YteppbhimdjmabaaGreatDoor
namespace Go.Proofs.YteppbhimdjmabaaGreatDoor
set_option maxRecDepth 20000
def i1:((1:Z):Y)=1:=rfl
def i0:((0:Z):Y)=0:=rfl
structure Gc (A B G:dF Z):Prop where
 nz:Nz G
 ne:G≠[]
 prim:C2a G
 da:Dv G A
 db:Dv G B
 cb:Cb A B G
structure GcI (A B a b:dF Z):Prop where
 nza:Nz a
 nzb:Nz b
 a0:a≠[]
 pa:C2a a
 pb:b≠[]->C2a b
 cba:Cb A B a
 cbb:Cb A B b
 dn:∀ d,Dv d a->Dv d b->Dv d A/\Dv d B
def GcI.start{A B:dF Z}(h1:Nz A)(h2:Nz B)(h3:A≠[])(h4:C2a A)(h5:B≠[]->C2a B):GcI A B A B:=⟨h1,h2,h3,h4,h5,Cb.left _ _,Cb.right _ _,fun _ x y=>⟨x,y⟩⟩
def Pm.ne{w W:dF Z}{c:Z}(p:Pm w W c):W≠[]↔w≠[]:=by have:=p.len;grind
def GcI.step{A B a b q R R':dF Z}{m c:Z}(g:GcI A B a b)(hb:b≠[])(hm:m≠0)(h:∀x,(m:Y)*pe a x=pe q x*pe b x+pe R x)(hR:Nz R)(p:Pm R R' c):GcI A B b R':=by have e:∀x,pe R x=(c:Y)*pe R' x:=p.val;refine⟨g.nzb,p.nz hR,hb,g.pb hb,fun f=>p.prim (by have:=p.pos hR (p.ne.1 f);omega),g.cbb,?_,fun d i j=>?_⟩;{by_cases f:R=[];{have:R'=[]:=by{by_cases z:R'=[];{exact z};·exact absurd f (p.ne.1 z)};subst this;exact⟨1,[],[],dc,fun x=>by simp only[pe];grind⟩};·exact Cb.step (by have:=p.pos hR f;omega) h e g.cba g.cbb};·exact g.dn d (Dv.step hm h e i j) i
def GcI.done{A B a:dF Z}(g:GcI A B a []):Gc A B a:=by obtain⟨b,c⟩:=g.dn a (Dv.refl a) (Dv.nil a);exact⟨g.nza,g.a0,g.pa,b,c,g.cba⟩
def Dv.one(p:dF Z):Dv [1] p:=⟨1,p,dc,fun x=>by rw[Z6,i1];grind⟩
def GcI.one{A B a b:dF Z}(g:GcI A B a b)(hb:b.length=1):Gc A B [1]:=by
 refine⟨fun _=>by simp,by simp,fun k e=>?_,Dv.one _,Dv.one _,?_⟩
 ·have:=e 0;obtain⟨d,c⟩:=this;have f:k.natAbs*d.natAbs=1:=by rw[<- bG,<- c];rfl
  have:=cK f;omega
 ·obtain⟨N,α,β,j,h⟩:=g.cbb
  match b,hb with
  | [k],_=>
   have i:k≠0:=g.nzb (by simp);refine⟨N*k,α,β,fun z=>?_,fun x=>?_⟩;·rcases Int.mul_eq_zero.1 z with z|z<;>contradiction
   ·have:=h x;rw[Z6,aC];simp only[pe]at this;grind
def Hist(L:dF (dF Z))(p q:dF Z):Prop:=∀t,PCh (p::q::t)->PCh (L++q::t)
def Hist.start(S q:dF Z):Hist [S] S q:=fun _ h=>h
def Hist.step{L:dF (dF Z)}{p q r u R:dF Z}{m c:Z}(h:Hist L p q)(hm:m≠0)(e:∀x,(m:Y)*pe p x=pe u x*pe q x+pe R x)(hc:0<c)(hR:∀x,pe R x=(c:Y)*pe r x):Hist (L++[q]) q (if 0<m then J8 (-1) r else r):=by intro t a;rw[cH];refine h _ ?_;have d:((-1:Z):Y)= -1:=rfl;by_cases b:0<m;{rw[iP b]at a ⊢;refine PCh.cons (α:=m) (β:=c) (u:=u) o hc (fun x=>?_) a;rw[e,hR,F4,d];grind};·refine PCh.cons (α:=-m) (β:=c) (u:=J8 (-1) u) o hc (fun x=>?_) a;rw[F4,d,bM];grind
def Hist.done{L:dF (dF Z)}{p q u:dF Z}{m:Z}(h:Hist L p q)(hm:m≠0)(e:∀x,(m:Y)*pe p x=pe u x*pe q x):PCh (L++[q]):=h [] (PCh.two hm e)
def Hn.sgn{w:dF Z}{num den val pw:Z}(h:Hn w num den 0 val pw)(hd:0<den){x:Y}(hx:(num:Y)=x*(den:Y)):sgR (val:Y)=sgR (pe w x):=by
 have e:=h.2 x hx;rw[Nat.sub_zero,List.drop_zero]at e;have a:(0:Y)<(den:Y):=K8 hd
 have d:(0:Y)<pwx (den:Y) w.length:=by
  generalize w.length=n
  induction n with
  |zero=>rfl
  |succ n ih=>show(0:Y)<(den:Y)*pwx (den:Y) n;exact aK a ih
 have c:=Ix (den:Y) (val:Y);have b:=Ix (pwx (den:Y) w.length) (pe w x);rw[R4.2 a,e]at c;rw[R4.2 d]at b;omega
def A0q(z:Z):sgR (z:Y)=z.sign:=by rcases Int.lt_trichotomy z 0 with h|h|h;{rw[Int.sign_eq_neg_one_of_neg h];refine T8.2 ?_;have:=K8 (N:=-z) o;grind};{subst h;rfl};·rw[dB h];exact R4.2 (K8 h)
def clB(l:J):J:=[446,89,22,7,3,1,1].getD l 1
def C5o:∀a b c:Fin 7,c.val<b.val->b.val<a.val->(a.val=6->b.val=5)->clB a.val+(a.val-b.val+1)*clB b.val<=clB c.val:=dc
def Ea:∀l:J,1<=clB l/\clB l<=446
 |0=>by decide
 |1=>by decide
 |2=>by decide
 |3=>by decide
 |4=>by decide
 |5=>by decide
 |6=>by decide
 |n+7=>by simp[clB]
def Bdd(M:J)(w:dF Z):Prop:=w.length<=6/\∃μ,WB μ w/\μ+1<=clB w.length*(M+1)
def Bdd.start{M:J}{w:dF Z}(h:WB M w)(hl:w.length<=6):Bdd M w:=⟨hl,M,h,by have:=(Ea w.length).1;exact Nat.le_mul_of_pos_left _ this⟩
def Lb(a b:dF Z):Prop:=a.length<=6/\b.length<a.length/\(a.length=6->b.length=5)
def Bdd.step{M:J}{a b:dF Z}{l μ ν:J}(h1:Lb a b)(h3:l<b.length)(ha:μ+1<=clB a.length*(M+1))(hb:ν+1<=clB b.length*(M+1)):μ+(a.length-b.length+1)*(ν+1)+1<=clB l*(M+1):=by obtain⟨h1,c,d⟩:=h1;have k:=C5o ⟨a.length,o⟩ ⟨b.length,o⟩ ⟨l,o⟩ h3 c d;have f:(a.length-b.length+1)*(ν+1)<=(a.length-b.length+1)*(clB b.length*(M+1)):=Nat.mul_le_mul_left _ hb;have e:=aH (M+1) k;grind
def Bdd.lim{M μ ν n:J}{a b:dF Z}(hM:3600*(M+1)<=40000000)(hn:n<=6)(ha:μ+1<=clB a.length*(M+1))(hb:ν+1<=clB b.length*(M+1)):μ+(n+1)*(ν+1)<=40000000:=by have e:=aH (M+1) (Ea a.length).2;have d:=aH (M+1) (Ea b.length).2;have c:(n+1)*(ν+1)<=7*(ν+1):=aH _ o;omega
def Bdd.le{M:J}{w:dF Z}(h:Bdd M w):WB (446*(M+1)) w:=by obtain⟨_,μ,a,b⟩:=h;have:=aH (M+1) (Ea w.length).2;exact a.mono o
def Pm.lenNz{w W:dF Z}{c:Z}(p:Pm w W c)(h:w≠[])(hw:Nz w):c≠0:=by have:=p.pos hw h;omega
def Dv.scale{d p q:dF Z}{c:Z}(h:Dv d q)(e:∀x,pe p x=(c:Y)*pe q x):Dv d p:=by obtain⟨N,f,a,b⟩:=h;refine⟨N,J8 c f,a,fun x=>?_⟩;rw[e,F4];grind
structure SqF (w S:dF Z):Prop where
 nz:Nz S
 ne:S≠[]
 len:S.length<=w.length
 ex:∃ (W G:dF Z) (c:Z),0<c/\(∀ x,pe w x=(c:Y)*pe W x)/\Dv G (dl W)/\(∀ x,pe W x=pe S x*pe G x)/\Nz G/\G≠[]/\Cb W (dl W) G
def Cb.scale{A B A' B' G:dF Z}{a b:Z}(h:Cb A' B' G)(ha:a≠0)(eA:∀x,pe A x=(a:Y)*pe A' x)(eB:∀x,pe B x=(b:Y)*pe B' x)(hb:b=0->B'=[]):Cb A B G:=by obtain⟨N,α,β,d,h⟩:=h;by_cases b0:b=0;{have c:=hb b0;subst c;refine⟨a*N,α,[],fun z=>by rcases Int.mul_eq_zero.1 z with z|z<;>contradiction,fun x=>?_⟩;have:=h x;simp only[pe]at this ⊢;grind};·refine⟨a*b*N,J8 b α,J8 a β,fun z=>?_,fun x=>?_⟩;{rcases Int.mul_eq_zero.1 z with z|z;{rcases Int.mul_eq_zero.1 z with z|z<;>contradiction};·contradiction};·rw[eA,eB,aC,aC,F4,F4];grind
section
variable {h:aI} {K:VP} {A B:Option aL} {n c k d mw mv M:J} {w v f:dF Z}
def A9e(r:WV h A n w)(rv:WV h B k v)(hf:Nz f)(hv:Nz v)(hv0:v≠[])(hf0:f≠[])(hl:w.length+1=f.length+v.length)(he:∀x,pe w x=pe f x*pe v x)(hn:n<=1000)(hbw:WB mw w)(hbv:WB mv v)(hT:mw+(n+1)*(mv+1)<=40000000) (hK:∀A' n' c' h',h.le h'->WV h' A' n' f->n'<=c'->WB (mw+n*(mv+1)) f->K (.slice A' n' c') h'):aN prog 121 #[.slice A n c,.slice B k d] h K:=by refine(fnk func121 [(6,[7],[],[I 0]),(11,[55],[],[I 0])] (os:=[(8,[0,1,2,3,4,5,6,7,8,11,9,10,12])]) (own:=[8,10])) ?_;have rl:=r.1;have vl:=rv.1;have lv:=List.length_pos_iff.2 hv0;have lf:=List.length_pos_iff.2 hf0;refine D4 (fun e=>oo) (fun _=>B9 (fun e1=>oo) (fun _=>?_));obtain⟨nv,rfl⟩:∃nv,k=nv+1:=⟨k-1,oo⟩;obtain⟨nq,hnq⟩:∃nq,nq=f.length:=⟨_,rfl⟩;have Q:nv+nq=n:=oo;rw[show C4 (C4 ((n:Z)-((nv+1:J):Z))+1)=(nq:Z) by rw[C0 (n:=(n:Z)-((nv+1:J):Z)) oo oo,C0]<;>omega];refine G7 tWh (zx:=A2k) rfl oo oo oo oo ?_;intro bq O;rw[bI];refine⟨_,_,_,rfl,?_⟩;refine Fd tWh ?_;intro b2 G;refine⟨_,_,_,rfl,?_⟩;obtain⟨xs,sx,xl,rx⟩:=r.2;refine R9 tWh (PrivF.nil _ 118 _) (ys:=xs) xl.symm (sx.mono (B6 (A26 O _) (Heap.le_put _ G))) gz0 gz0 ?_;intro A4 c4 h4 M ac p4;rw[bO]at p4;rw[bO,xl];have aa:xs≠[]:=gz0;obtain⟨br,g,o,rfl,W,E⟩:=A2x (q:=fun _=>0) (r:=cf w) O (B6 (Heap.le_put _ G) ac) p4 aa (fun i y=>⟨A2k,gz0,ZI.zero⟩) gz0;rw[List.length_replicate,xl]at E;have R:v.length-1=nv:=oo;have hβ:∀j,j<=nq->mw+j*(mv+1)<=40000000:=fun j hj=>by{have:=aH (mv+1) (show j<=n+1 from oo);omega};have aq:mv<=40000000:=by{grind};have a:=hv.lead hv0;refine⟨_,_,_,rfl,fun L X=>∃(k:J) (g' o':aI) (q r:J->Z),k<=nq/\L=[I ((k:Z)-1)]/\g.le g'/\Two X g' o' bq br nq n q r/\QE f v k r/\(∀i,k<=i->i<nq->q i=cf f i)/\(∀i,k<=i->ZB (mw+nq*(mv+1)) (cf f i))/\(∀i,i<n->ZB (mw+(nq-k)*(mv+1)) (r i)),fun L _=>(iAt L 0+1).toNat,⟨nq,g,o,fun _=>0,cf w,aJ _,by rw[C0 oo oo],B8 _,E,by rw[hnq];exact QE.start (fun x=>by rw[R,<- hnq,Q,rl,Vr];exact he x),fun i h1 h2=>oo,fun i y=>by rw[Zx oo];exact zb0,fun i _=>(hbw i).mono oo⟩,?_⟩;rintro kz X ⟨k,g1,o1,q,r1,ao,eL,l,t,qe,hq,ad,z⟩;obtain rfl:kz=(k:Z)-1:=gz0;refine B9 (fun ap=>?_) (fun ae=>?_);{obtain⟨j,rfl⟩:∃j,k=j+1:=⟨k-1,oo⟩;rw[show((j+1:J):Z)-1=(j:Z)from oo];have ei:C4 (C4 (((nv+1:J):Z)-1)+(j:Z))=((nv+j:J):Z):=by{rw[C0 (n:=((nv+1:J):Z)-1) oo oo,C0]<;>omega};have ej:C4 ((j:Z)-1)=(j:Z)-1:=C0 oo oo;rw[ei,ej];obtain⟨tw,zt,f0,f1⟩:=t.rat (i:=nv+j) oo;refine⟨_,rfl,oo,oo,_,_,_,_,t.sep.cell f0,t.sep.cell f1,?_⟩;have al:nq-j=(nq-(j+1))+1:=oo;have hβ1:mw+(nq-j)*(mv+1)=mw+(nq-(j+1))*(mv+1)+(mv+1):=gz0;have b1:=hβ (nq-j) oo;have b0:mw+(nq-(j+1))*(mv+1)<=mw+nq*(mv+1):=by{have:=aH (mv+1) (show nq-(j+1)<=nq from oo);omega};generalize hT:mw+(nq-(j+1))*(mv+1)=T at *;have bt:=z (nv+j) oo;have lw:h.le X:=B6 W (B6 l t.sep.le);refine t.sep.call (Di (rv.mono (B6 W l)) oo ?_);intro sl Al nl cl il am D;rw[aV]at il;refine⟨_,_,_,_,rfl,t.sep.grow D (B8 _),?_⟩;have F:j<f.length:=oo;have b:=qe.top F hv0;rw[R]at b a;refine D.call (R3 zt il (bt.mono (show T<=T+mv from oo)) ((hbv nv).mono oo) oo a ?_);intro s1 A1 n1 c1 g2 p i2 h1 N;rw[b,Int.mul_tdiv_cancel _ a]at i2;have s:ZB T (cf f j):=by{have:=bt;rw[b]at this;refine this.le ?_;rw[bG];exact Nat.le_mul_of_pos_right _ oo};refine⟨_,_,_,_,rfl,D.grow N p,_,rfl,oo,oo,?_⟩;refine(t.next N p).storeQ (i:=j) oo (w:=⟨s1,A1,n1,c1⟩) i2 ?_;intro h3 o3 t3;refine⟨fun L hq=>∃(u:J) (M o4:aI),u<=nv+1/\L=[I u]/\g2.le M/\Two hq M o4 bq br nq n (fun i=>if i=j then cf f j else q i) (fun i=>r1 i-(if j<=i/\i<j+u then cf f j*cf v (i-j)else 0)),fun L _=>nv+1-(iAt L 0).toNat,⟨0,g2,o3,oo,rfl,B8 _,t3.congr (fun _ _=>rfl) (fun i _=>oo)⟩,?_⟩;rintro tz hr ⟨u,M,o4,hu,an,S,m⟩;obtain rfl:tz=(u:Z):=gz0;refine B9 (fun ae=>?_) (fun ak=>?_);{have e9:C4 ((u:Z)+(j:Z))=((u+j:J):Z):=by{rw[C0]<;>omega};rw[e9];have aj:u<nv+1:=oo;obtain⟨av,wv,rfl,zv,v0,v1⟩:=(rv.2.mono Q8 (B6 W (B6 l (B6 p S)))).zat aj;obtain⟨w8,z8,a0,a1⟩:=m.rat (i:=u+j) oo;rw[iN oo,Int.sub_zero]at z8;refine⟨_,rfl,oo,oo,_,_,_,_,C2 m.sep.le v0,C2 m.sep.le v1,_,rfl,oo,oo,_,_,_,_,m.sep.cell a0,m.sep.cell a1,?_⟩;refine m.sep.call (I6 (i2.mono S) zv (s.mono (show T<=T+mv from oo)) ((hbv u).mono oo) oo ?_);intro s5 A5 n5 c5 g5 V i5 h5 C;refine⟨_,_,_,_,rfl,m.sep.grow C V,?_⟩;refine C.call (B1c (z8.mono V) i5 ((z (u+j) oo).mono (show T<=T+mv from oo)) (s.mul (hbv u)) oo ?_);intro s6 A6 n6 c6 g6 l6 i6 h6 H;refine⟨_,_,_,_,rfl,C.grow H l6,_,rfl,oo,oo,?_⟩;refine(m.next H (B6 V l6)).storeR (i:=u+j) oo (w:=⟨s6,A6,n6,c6⟩) i6 ?_;intro h7 o7 t7;refine⟨⟨u+1,g6,o7,oo,by rw[C0 oo oo];rfl,B6 S (B6 V l6),t7.congr (fun _ _=>rfl) (fun i y=>?_)⟩,by simp only[U4];rw[C0 oo oo];omega⟩;by_cases ag:i=u+j;{subst ag;rw[iP rfl,iP oo,aV]};omega};·have e8:u=nv+1:=oo;subst e8;refine⟨⟨j,M,o4,_,_,oo,rfl,B6 l (B6 p S),m,qe.step F hv0 (fun i y=>?_),fun i h1 h2=>?_,fun i y=>?_,fun i y=>?_⟩,by show((j:Z)-1+1).toNat<((j:Z)+1).toNat;omega⟩;{omega};{grind};{by_cases af:i=j;{subst af;exact s.mono b0};grind};·show ZB _ (r1 i-_);have x2:ZB (T+mv) (if j<=i/\i<j+(nv+1)then cf f j*cf v (i-j)else 0):=by{split;{exact s.mul (hbv _)};·exact zb0};rw[hβ1];exact(((z i y).mono (show T<=T+mv from oo)).sub x2).mono oo};·obtain rfl:k=0:=oo;have wv:WV X (some ⟨bq,0,none⟩) nq f:=⟨hnq,t.visQ.congr fun i y=>hq i oo y⟩;refine Dh wv oo (aJ _) ?_;intro A5 n5 c5 w5 ah;rw[Sm hf]at w5;refine⟨_,_,_,rfl,hK _ _ _ _ (B6 W (B6 l t.sep.le)) w5 ah fun i=>(ad i oo).mono ?_⟩;have:=aH (mv+1) (show nq<=n from oo);omega
end
