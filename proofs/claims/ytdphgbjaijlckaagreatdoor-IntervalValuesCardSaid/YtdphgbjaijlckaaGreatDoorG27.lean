/- A part. -/
import Derived.Test.YtdphgbjaijlckaaGreatDoorG26
import Derived.Test.YtdphgbjaijlckaaGreatDoorG25
import Derived.Deep.SlicePairs
import Derived.Deep.Strs
open Go.Proofs.Tryz
set_option linter.all false
open _root_.Go.Addr renaming add->aC
open _root_.Go.Builtin renaming append_->bX
open _root_.Go.Instr renaming storeAt->aT,buildSlice->bM,alloc->cM
open Int renaming toNat_natCast->aE,pow_pos->bH,mul_le_mul_of_nonneg_left->bI,tmod->cH,pow_succ->cI,le_of_lt->cJ,eq_ofNat_of_zero_le->cU,mul_zero->cZ,add_zero->dB
open List renaming getD_eq_getElem?_getD->aD,getElem?_eq_getElem->aG,getElem_mem->aK,getElem?_cons_zero->aM,length_set->aN,length_append->aP,replicate->aQ,getElem?_cons_succ->aR,range->aV,mem_or_eq_of_mem_set->aY,set_cons_succ->bA,getElem?_map->bB,take_append_drop->bC,length_replicate->bD,getElem?_eq_none->bF,getElem?_append_right->bJ,length_take->bL,getElem?_range->bY,length_range->cG,not_mem_nil->cK,length_map->cO,getElem?_append_left->cP,mem_cons->cR,toArray->cW,take_of_length_le->cX,getElem?_set_self->cY
open List.cons renaming injEq->bW
open Nat renaming mul_le_mul_left->aS,le_refl->aU,mul_le_mul_right->bG,zero_add->cC,succ_mul->cD,le_trans->cF,min_eq_left->cN,le_mul_of_pos_right->cT
open Option.some renaming inj->bV
open Rat renaming le_refl->aH,le_trans->aL,intCast_mul->aZ,divInt->bO,pow_zero->cV
open _root_.Go.Value renaming slice->bK,string->bZ
open _root_.Go.Value.int renaming injEq->bU
open _root_.Go renaming Addr->aI,TypeId->aO,Program->aW,Value->aX
open _root_.Go.Proofs.YtdphgbjaijlckaaGreatDoor renaming Heap->aF,FCall->aJ,RowX->bN,PolyAt->cA,IsNum->cL,memOf->cQ
namespace Go.Proofs.YtdphgbjaijlckaaGreatDoor
set_option maxRecDepth 20000
open Go
def Wg(B:Int):∀ {ts:List Int} {k:Nat} (_:k<ts.length) (v:Int),val B (ts.set k v)=val B ts+B^k*(v-ts.getD k 0)
 | [],k,h,v=>by simp at h
 | t::ts,0,h,v=>by simp [val];grind
 | t::ts,k+1,h,v=>by
  have ih:=Wg B (ts:=ts) (k:=k) gz0 v
  simp only [bA,val,List.getD_cons_succ,ih,cI]
  grind
section
variable {h g:aF} {K:VP} {A B:Option aI} {s s':Bool} {an ac bn bc m:Nat} {x y:Int}
def Ug{hp:aF}{n c k:Nat}{ts:List Int}{ca:Int}(p:Pw hp g A n c ts)(hn:n=ts.length)(dt:Dig b64 ts)(hk:k<n)(hca:0<=ca/\ca<18446744073709551616){Q:Int->aF->Prop}
 (hQ:∀ h' ts',Pw h' g A n c ts'->n=ts'.length->Dig b64 ts'->val b64 ts'+b64^(k+1)*((ts.getD k 0+ca)/18446744073709551616)=val b64 ts+b64^k*ca->Q ((ts.getD k 0+ca)/18446744073709551616) h'):
 ∃ a,A=some a/\0<=(k:Int)/\(k:Int)<((n:Nat):Int)/\∃ (t:Int),Heap.cell? hp (aC a (((k:Int)).toNat*1))=some (U t)/\ECall prog 274 #[U t,U ca,U (0:Int)] hp (fun r hp1=>∃ (ta tb:Int),r= .tuple #[U ta,U tb]/\∃ a2,A=some a2/\0<=(k:Int)/\(k:Int)<((n:Nat):Int)/\wpH prog (aT 230 (.pointer (some (aC a2 (((k:Int)).toNat*1)))) (U ta)) (fun _ hp2=>Q tb hp2) hp1):=by
 have d:ts≠[]:=gz0
 obtain ⟨b,l,w,x⟩:=Y2 p d
 have u:=I5 dt k
 refine w.sl.load hn o o ?_
 refine T9 u hca o ⟨_,_,rfl,?_⟩
 obtain ⟨a,q,_⟩:=SlV.at w.sl (i:=k) gz0
 refine ⟨a,q,o,o,w.storeN D8 q o ?_⟩
 intro s e
 simp only [dB] at e ⊢
 have j:=e.priv (m:=n) (c:=c) (by simp_all) gz0 gz0
 rw [cX gz0] at j
 refine hQ s _ j gz0 (dt.set (W5 _)) ?_
 rw [Wg b64 o,cI]
 grind
def Zr{Invv1:LP}{muv1:LN}{TA:Option aI}{tn tc i x2n:Nat}{ts:List Int}{ca:Int}{hp8 hp7:aF}(p:Pw hp8 g TA tn tc ts)(hn:tn=ts.length)(dt:Dig b64 ts)(hle:i+x2n<=tn)(hca:0<=ca/\ca<18446744073709551616)(hl:tn<=1000000000)
 (hK:∀ TA' tn' tc' ts' h' g',g.le g'->Pw h' g' TA' tn' tc' ts'->tn'=ts'.length->Dig b64 ts'->val b64 ts'=val b64 ts+b64^(i+x2n)*ca->(tn'=tn\/(tn'=tn+1/\b64^tn<=val b64 ts'))->Invv1 [.slice TA' tn' tc',I (B7 ((i:Int)+1))] h'/\muv1 [.slice TA' tn' tc',I (B7 ((i:Int)+1))] h'<muv1 [.slice TA tn tc,I (i:Int)] hp7):
 U7 prog x2n Invv1 muv1 TA tn tc (i:Int) ca hp8 hp7:=by
 unfold U7
 have e1:B7 ((i:Int)+(x2n:Int))=((i+x2n:Nat):Int):=by rw [B5 o o];omega
 rw [e1]
 refine ⟨fun L V=>∃ (k:Nat) (c1:Int) (j:List Int) (A1:Option aI) (a b:Nat) (u:aF),L=[.slice A1 a b,U c1,I k]/\g.le u/\Pw V u A1 a b j/\a=j.length/\Dig b64 j/\k<=a/\(0<=c1/\c1<18446744073709551616)/\val b64 j+b64^k*c1=val b64 ts+b64^(i+x2n)*ca/\(a=tn\/(a=tn+1/\c1=0/\b64^tn<=val b64 j)),fun L _=>tn+2-(iAt L 2).toNat,⟨i+x2n,ca,ts,TA,tn,tc,g,rfl,B3 _,p,hn,dt,hle,hca,rfl,.inl rfl⟩,?_⟩
 rintro A1 a b c1 k0 aa ⟨k,Q,j,A1',ab,D,u,S,A,G,q,s,hk,d,hv,W⟩
 obtain ⟨⟨rfl,rfl,rfl⟩,rfl,rfl⟩:=S
 refine H9 (fun O=>?_) (fun O=>?_)
 ·have e:a=tn:=by
   omega
  have F:B7 ((k:Int)+1)=((k+1:Nat):Int):=by rw [B5 o o];omega
  have r:∀ (C M E H:aX),tn+2-(iAt [C,M,I ((k+1:Nat):Int)] 2).toNat<tn+2-(iAt [E,H,I (k:Int)] 2).toNat:=by
   intro C M E H
   simp only [iAt,aM,aR]
   omega
  refine E4 (fun y=>?_) (fun y=>?_)
  ·have n:k=a:=o
   refine Bf I6 G rfl rfl o o ?_
   intro A2 c2 h2 R l2 z
   rw [<- List.map_singleton (f:=Value.int .u64),<- List.map_append] at z
   have N:Dig b64 (j++[0]):=s.append (Dig.one dc)
   refine Ug z gz0 N o d ?_
   intro X m w l x c
   have T:(j++[0]).getD k 0=0:=by
    rw [n,q,List.getD,bJ (aU _)];simp
   rw [T,Int.zero_add,Int.ediv_eq_zero_of_lt d.1 d.2] at c ⊢
   rw [F]
   rw [F5,cZ,dB,cZ,dB] at c
   refine ⟨⟨k+1,0,m,A2,a+1,c2,R,rfl,A0 A l2,w,l,x,o,o,?_,.inr ⟨o,rfl,?_⟩⟩,r _ _ _ _⟩
   ·omega
   ·rw [c,<- e,<- n]
    have h5:=C3 (B:=b64) dc s
    have h6:b64^k*1<=b64^k*c1:=bI o (cJ (bH dc))
    omega
  ·refine Ug G q s o d ?_
   intro X m w l x c
   rw [F]
   have gt:=I5 s k
   refine ⟨⟨k+1,_,m,A1,a,b,u,rfl,A,w,l,x,o,?_,?_,.inl e⟩,r _ _ _ _⟩
   ·omega
   omega
 grind
def A1y{XA YA TA:Option aI}{xs ys ts:List Int}{x2n x2c y2n tn tc N:Nat}{hp4:aF}(p:Pw hp4 g TA tn tc ts)(hn:tn=ts.length)(dt:Dig b64 ts)(sx:SlI .u64 g XA xs)(hx:x2n=xs.length)(dx:Dig b64 xs)(sy:SlI .u64 g YA ys)(hy:y2n=ys.length)(dy:Dig b64 ys)(hxy:x2n+y2n<=tn)(hN:tn<=N)(hN2:N<=400000000)(hV:val b64 ts+val b64 xs*val b64 ys<b64^N)
 (hK:∀ TA' tn' tc' ts' h' g',g.le g'->Pw h' g' TA' tn' tc' ts'->tn'=ts'.length->Dig b64 ts'->val b64 ts'=val b64 ts+val b64 xs*val b64 ys->tn'<=N->K (.slice TA' tn' tc') h'):
 Fg prog K XA x2n x2c YA y2n TA tn tc hp4:=by
 have Q:=C3 (B:=b64) dc dx
 have j:∀ k,val b64 (ys.take k)<=val b64 ys:=by
  intro k
  have E:=E5 b64 (ys.take k) (ys.drop k)
  rw [bC] at E
  have h2:0<=b64^(ys.take k).length*val b64 (ys.drop k):=Int.mul_nonneg (cJ (bH dc)) (C3 (B:=b64) dc (dy.drop k))
  omega
 refine ⟨fun L hp=>∃ (k:Nat) (a:List Int) (A1:Option aI) (n d:Nat) (H:aF),L=[.slice A1 n d,I k]/\g.le H/\Pw hp H A1 n d a/\n=a.length/\Dig b64 a/\k<=y2n/\val b64 a=val b64 ts+val b64 xs*val b64 (ys.take k)/\x2n+y2n<=n/\n<=N,fun L _=>y2n-(iAt L 1).toNat,⟨0,ts,TA,tn,tc,g,rfl,B3 _,p,hn,dt,o,by simp [val],hxy,hN⟩,?_⟩
 rintro A1 n d k0 af ⟨k,a,A1',ag,V,H,hL,z,W,ab,u,hk,hv,ad,T⟩
 obtain ⟨⟨rfl,rfl,rfl⟩,rfl⟩:=hL
 refine B4 (fun E=>?_) (fun E=>?_)
 ·have gy:=I5 dy k
  have vy:=C5 b64 ys k
  have X:B7 ((k:Int)+(x2n:Int))=((k+x2n:Nat):Int):=by rw [B5 o o];omega
  refine (sy.mono (A0 z W.le)).load hy o o ?_
  have x:a≠[]:=gz0
  obtain ⟨b,aa,w,hc⟩:=Y2 W x
  refine ⟨⟨o,o⟩,⟨o,o⟩,?_⟩
  have i:((a.drop k).take (k+x2n-k)).length=xs.length:=gz0
  refine Bs (w.sub (l:=k) (m:=k+x2n) (c:=d) o o o) o (sx.mono z) hx ((u.drop k).take _) dx i gy o ?_
  intro s c h' e r D A w'
  rw [i] at e A
  have w2:=w.whole (l:=k) (m:=k+x2n) o o o w'
  refine ⟨_,rfl,?_⟩
  have ae:(a.take k++s++a.drop (k+x2n)).length=a.length:=by
   grind
  have q:a.take k++s++a.drop (k+x2n)≠[]:=by
   grind
  have S:=w2.priv (m:=n) (c:=d) q o o
  rw [cX o] at S
  have d2:Dig b64 (a.take k++s++a.drop (k+x2n)):=((u.take k).append r).append (u.drop _)
  have O:a=a.take k++((a.drop k).take (k+x2n-k)++a.drop (k+x2n)):=by
   have X:a.drop (k+x2n)=(a.drop k).drop (k+x2n-k):=by simp_all
   rw [X,bC,bC]
  have C:val b64 (a.take k++s++a.drop (k+x2n))+b64^(k+x2n)*c=val b64 a+b64^k*(val b64 xs*ys.getD k 0):=by
   have e2:val b64 a=val b64 (a.take k)+b64^k*(val b64 ((a.drop k).take (k+x2n-k))+b64^xs.length*val b64 (a.drop (k+x2n))):=by
    conv=>lhs;rw [O]
    rw [E5,E5,i,bL,cN o]
   rw [e2,List.append_assoc,E5,E5,bL,cN o,e,hx,Int.pow_add]
   generalize b64^k=P at *
   generalize b64^xs.length=R at *
   grind
  refine Zr S o d2 o D o ?_
  intro TA' tn' tc' ts' h3 g3 l3 p3 F d3 ac M
  have y:val b64 ts'=val b64 ts+val b64 xs*val b64 (ys.take (k+1)):=by
   grind
  have G:tn'<=N:=by
   rcases M with h4|⟨h4,h5⟩
   ·omega
   ·have h6:=bI (j (k+1)) Q
    grind
  have e3:B7 ((k:Int)+1)=((k+1:Nat):Int):=by rw [B5 o o];omega
  rw [e3]
  exact ⟨⟨k+1,ts',TA',tn',tc',g3,rfl,A0 z l3,p3,F,d3,o,y,o,G⟩,by simp only [iAt,aM,aR];omega⟩
 grind
def Bu{TA XA YA:Option aI}{ts:List Int}{tn tc xn xc yn yc N:Nat}(p:Pw h g TA tn tc ts)(hn:tn=ts.length)(dt:Dig b64 ts)(ma:Mw g XA xn x)(mb:Mw g YA yn y)(hxc:xn<=xc)(hyc:yn<=yc)(hN:tn<=N)(hxy:xn+yn+1<=N)(hN2:N<=400000000)(hV:val b64 ts+x*y<b64^N)
 (hK:∀ TA' tn' tc' ts' h' g',g.le g'->Pw h' g' TA' tn' tc' ts'->tn'=ts'.length->Dig b64 ts'->val b64 ts'=val b64 ts+x*y->tn'<=N->K (.slice TA' tn' tc') h'):aJ prog 255 #[.slice TA tn tc,.slice XA xn xc,.slice YA yn yc] h K:=by
 refine Jz _ _ _ _ _ _ _ _ _ ?_
 refine ⟨fun L F=>F=h/\∃ (A1 B1:Option aI) (d c1 i c2:Nat) (j a:Int),L=[.slice A1 d c1,.slice B1 i c2]/\Mw g A1 d j/\Mw g B1 i a/\d<=c1/\i<=c2/\d+i=xn+yn/\j*a=x*y,B4 (fun _=>⟨rfl,_,_,_,_,_,_,y,x,rfl,mb,ma,hyc,hxc,oo,Int.mul_comm _ _⟩) (fun _=>⟨rfl,_,_,_,_,_,_,x,y,rfl,ma,mb,hxc,hyc,rfl,rfl⟩),?_⟩
 rintro A1 d c1 B1 i c2 F ⟨rfl,A1',B1',ad,ak,ae,ag,j,a,B,W,E,k1,k2,an,A⟩
 obtain ⟨⟨rfl,rfl,rfl⟩,rfl,rfl,rfl⟩:=B
 have ab:=E.nonneg dc
 refine ⟨fun L r=>∃ (A2 B2:Option aI) (e S k c4:Nat) (M y2:Int) (l:aF),L=[.slice A2 e S,.slice B2 k c4]/\g.le l/\Pw r l TA tn tc ts/\Mw l A2 e M/\Mw l B2 k y2/\e+k<=xn+yn+1/\M*y2=x*y,B4 (fun _=>?_) (fun _=>⟨_,_,_,_,_,_,j,a,g,rfl,B3 _,p,W,E,oo,A⟩),?_⟩
 ·refine p.call ?_
  refine D6 W E k1 k2 oo oo ?_
  intro A3 e S g3 l3 k3 M3 h3 p3
  refine ⟨_,_,_,rfl,?_⟩
  refine S5 I6 rfl ?_
  intro b G
  have u:g3 b=none:=by
   cases hx1:g3 b with
   | none=>rfl
   | some o=>rw [p3.le b o hx1] at G;cases G
  refine ⟨_,_,_,rfl,_,_,_,_,_,_,j*a,1,g3.put b (.cells #[U 1] 230),rfl,A0 l3 (Heap.le_put _ u),p3.put G _,M3.mono (Heap.le_put _ u),?_,?_,oo⟩
  ·refine ⟨[1],rfl,SlI.new _ _ _ _ _,?_,?_,?_⟩
   ·intro x hx;grind
   ·unfold Norm;simp
   rfl
  ·have s:=W.lt dc
   have D:=E.lt dc
   have Q:j*a<b64^(d+i):=by
    rw [Int.pow_add]
    by_cases h0:a=0
    ·subst h0
     rw [cZ]
     exact Int.mul_pos (bH dc) (bH dc)
    ·have h1:j*a<b64^d*a:=Int.mul_lt_mul_of_pos_right s oo
     have h2:b64^d*a<=b64^d*b64^i:=bI (cJ D) (cJ (bH dc))
     omega
   have:=M3.len_le dc Q
   omega
 rintro A2 e S B2 k c4 r ⟨A2',B2',al,ao,aj,af,M,y2,l,B,lg,p1,M1,M2,am,w⟩
 obtain ⟨⟨rfl,rfl,rfl⟩,rfl,rfl,rfl⟩:=B
 obtain ⟨xs,O,sx,dx,nx,rfl⟩:=M1
 obtain ⟨ys,X,sy,dy,ny,rfl⟩:=M2
 have e1:B7 ((e:Int)+(k:Int))=((e+k:Nat):Int):=by rw [B5 oo oo];omega
 refine ⟨fun L F=>∃ (m:List Int) (A5:Option aI) (q c5:Nat) (T:aF),L=[.slice A5 q c5]/\l.le T/\Pw F T A5 q c5 m/\q=m.length/\Dig b64 m/\val b64 m=val b64 ts/\q<=N,fun L _=>match L with|[.slice _ n _]=>e+k-n|_=>0,⟨ts,TA,tn,tc,l,rfl,B3 _,p1,hn,dt,rfl,hN⟩,?_⟩
 rintro A5 q c5 ac ⟨m,A5',ai,ah,T,B,c,p5,V,du,z,H⟩
 obtain ⟨rfl,rfl,rfl⟩:=B
 refine B4 (fun h1=>?_) (fun h1=>?_)
 ·refine Bf I6 p5 rfl rfl oo oo ?_
  intro A6 c6 h6 g6 l6 p6
  rw [<- List.map_singleton (f:=Value.int .u64),<- List.map_append] at p6
  refine ⟨⟨m++[0],A6,q+1,c6,g6,rfl,A0 c l6,p6,gz0,du.append (Dig.one dc),by rw [F5,z];simp,oo⟩,?_⟩
  grind
 ·refine A1y (N:=N) p5 V du (sx.mono c) O dx (sy.mono c) X dy oo H hN2 oo ?_
  intro TA' tn' tc' ts' h' g' l' p' R d' C aa
  rw [z,w] at C
  exact hK TA' tn' tc' ts' h' g' (A0 lg (A0 c l')) p' R d' C aa
def SumS(h g:aF)(b:Nat)(e:aO)(N:Nat)(M v:Int):Prop:=∃ (PA NA:Option aI) (pn pc nn nc:Nat) (ps ns:List Int) (g1 g2:aF),Pw g1 g PA pn pc ps/\Pw g2 g1 NA nn nc ns/\g2 b=none/\h=g2.put b (.cells #[.slice PA pn pc,.slice NA nn nc] e)/\pn=ps.length/\nn=ns.length/\Dig b64 ps/\Dig b64 ns/\v=val b64 ps-val b64 ns/\pn<=N/\nn<=N/\val b64 ps+val b64 ns<=M
def SumS.le{b:Nat}{e:aO}{N:Nat}{M v:Int}(S:SumS h g b e N M v):g.le h:=by
 obtain ⟨PA,NA,l,q,p,m,j,n,k,i,a,c,d,rfl,_⟩:=S
 exact A0 a.le (A0 c.le (Heap.le_put _ d))
def SumS.zero{b:Nat}{e:aO}{N:Nat}(hb:g b=none):SumS (g.put b (.cells #[.slice none 0 0,.slice none 0 0] e)) g b e N 0 0:=
 ⟨none,none,0,0,0,0,[],[],g,g,Priv.nil _ _ _ _,Priv.nil _ _ _ _,hb,rfl,rfl,rfl,Dig.nil,Dig.nil,o,o,o,by simp [val]⟩
def Ce:prog.cellsOf 89=1/\(prog.info? 89).isSome=true:=by constructor<;>kernel_rfl
def Hh{b:Nat}{e:aO}{N:Nat}{M v:Int}{N1:Nat}(S:SumS h g b e N M v)(i:ZI g s A an ac x)(j:ZI g s' B bn bc y)(hab:an+bn+1<=N)(hN2:N<=400000000)(hM:M+(x*y).natAbs<b64^N1)(hN1:N1<=N)
 (hK:∀ h' g',g.le g'->SumS h' g' b e N (M+(x*y).natAbs) (v+x*y)->K (.tuple #[]) h'):aJ prog 220 #[.pointer (some ⟨b,0,none⟩),.agg #[.bool s,.slice A an ac],.agg #[.bool s',.slice B bn bc]] h K:=by
 have ad:=i.zeroIff
 have ae:=j.zeroIff
 have c1:=S3 i.sgn
 have c2:=S3 j.sgn
 refine (fnk func220 (own:=[4,5]) (wr:=[255])) ?_
 have p:x*y=0->K (.tuple #[]) h:=by
  intro F
  refine hK h g (B3 _) ?_
  grind
 refine E4 (fun F=>p gz0) (fun _=>E4 (fun F=>p gz0) (fun _=>?_))
 obtain ⟨PA,NA,pn,pc,nn,nc,ps,ns,g1,g2,G,W,hb,rfl,D,n,dp,T,hv,C,E,X⟩:=S
 have af:=C3 (B:=b64) dc dp
 have ag:=C3 (B:=b64) dc T
 have ah:b64^N1<=b64^N:=C8 dc hN1
 have F:(aC ⟨b,0,none⟩ 0)=⟨b,0,none⟩:=O3 b 0 0
 have e1:(aC ⟨b,0,none⟩ 1)=⟨b,1,none⟩:=O3 b 0 1
 refine Br.of (fun hs=>?_) (fun hs=>?_)
 ·have ab:x*y= -((x.natAbs:Int)*(y.natAbs:Int)):=by
   grind
  refine ⟨_,rfl,_,_,_,by rw [e1,D5];rfl,?_⟩
  refine FCall.frame (K:=fun r R=>∃ (TA':Option aI) (c d:Nat) (a:List Int) (g':aF),r= .slice TA' c d/\g1.le g'/\Pw R g' TA' c d a/\c=a.length/\Dig b64 a/\val b64 a=val b64 ns+(x.natAbs:Int)*(y.natAbs:Int)/\c<=N) hb (Bu (N:=N) W n T (i.mag.mono G.le) (j.mag.mono G.le) i.cap j.cap E hab hN2 o (fun TA' c d a h' g' w z l u m k=>⟨TA',c,d,a,g',rfl,w,z,l,u,m,k⟩)) ?_
  ·rintro r O q ⟨TA',c,d,a,g',rfl,w,z,l,u,m,k⟩
   refine ⟨_,_,_,rfl,_,rfl,?_⟩
   refine Ed Ce.1 Ce.2 rfl rfl (by simp) ?_
   obtain ⟨V,Q,H⟩:=G.after w
   refine hK _ V Q ⟨PA,TA',pn,pc,c,d,ps,a,g',O,H,z,q,rfl,D,l,dp,u,?_,C,k,?_⟩
   ·omega
   omega
 ·have aa:x*y=(x.natAbs:Int)*(y.natAbs:Int):=by
   grind
  obtain ⟨g4,p4,L⟩:=W.swap G
  refine ⟨_,rfl,_,_,_,by rw [F,D5];rfl,?_⟩
  refine FCall.frame (K:=fun r R=>∃ (TA':Option aI) (c d:Nat) (a:List Int) (g':aF),r= .slice TA' c d/\g4.le g'/\Pw R g' TA' c d a/\c=a.length/\Dig b64 a/\val b64 a=val b64 ps+(x.natAbs:Int)*(y.natAbs:Int)/\c<=N) hb (Bu (N:=N) p4 D dp (i.mag.mono L.le) (j.mag.mono L.le) i.cap j.cap C hab hN2 o (fun TA' c d a h' g' w z l u m k=>⟨TA',c,d,a,g',rfl,w,z,l,u,m,k⟩)) ?_
  ·rintro r O q ⟨TA',c,d,a,g',rfl,w,z,l,u,m,k⟩
   refine ⟨_,_,_,rfl,_,rfl,?_⟩
   refine Ed Ce.1 Ce.2 rfl rfl (by simp) ?_
   obtain ⟨V,Q,H⟩:=L.after w
   obtain ⟨g6,p6,p7⟩:=z.swap H
   refine hK _ V Q ⟨TA',NA,c,d,nn,nc,a,ns,g6,O,p7,p6,q,rfl,l,n,u,T,?_,k,E,?_⟩
   ·omega
   omega
def S7{XA YA:Option aI}{xn xc yn yc:Nat}(ma:Mw h XA xn x)(mb:Mw h YA yn y)(hyx:y<=x)(hl:xn<=1000000000)(hK:∀ A' m c' h',h.le h'->m<=c'->Mw h' A' m (x-y)->K (.slice A' m c') h'):aJ prog 222 #[.slice XA xn xc,.slice YA yn yc] h K:=by
 have n:yn<=xn:=mb.len_le dc (Int.lt_of_le_of_lt hyx (ma.lt dc))
 obtain ⟨xs,c,q,u,D,rfl⟩:=ma
 obtain ⟨C,a,l,s,A,rfl⟩:=mb
 refine (fnk func222 (wr:=[249])) ?_
 refine K6 I6 o o o ?_
 intro b k
 refine ⟨_,_,_,rfl,?_⟩
 have w:=Win.blk .u64 230 k (aQ xn 0)
 refine S6 I6 w (by simp) (q.mono w.le) c gz0 ?_
 intro B g
 refine ⟨_,rfl,?_⟩
 rw [List.drop_of_length_le gz0,List.append_nil] at g
 refine V8 g c l a u s o hyx o ?_
 intro zs z p d e i
 refine ⟨rfl,?_⟩
 refine Q9 i.sl d o e (aU _) o ?_
 intro m r j
 exact ⟨_,_,_,rfl,hK _ _ _ _ i.le r j⟩
def Ls{b:Nat}{e:aO}{N:Nat}{M v:Int}(S:SumS h g b e N M v)(hN2:N<=400000000)(hK:∀ s A n c h',h.le h'->ZI h' s A n c v->K (.agg #[.bool s,.slice A n c]) h'):aJ prog 164 #[.pointer (some ⟨b,0,none⟩)] h K:=by
 obtain ⟨PA,NA,q,r,p,x,j,i,g1,B,C,l,G,rfl,u,w,dp,V,hv,L,aa,z⟩:=S
 have E:(aC ⟨b,0,none⟩ 0)=⟨b,0,none⟩:=O3 b 0 0
 have e1:(aC ⟨b,0,none⟩ 1)=⟨b,1,none⟩:=O3 b 0 1
 have D:=Heap.le_put (.cells #[.slice PA q r,.slice NA p x] e) G
 refine (fnk func164 (os:=[(1,[0,1,2,3,5,6,7,8,4,9,10,11])]) (own:=[2])) ?_
 refine ⟨_,rfl,_,_,_,by rw [E,D5];rfl,_,rfl,_,_,_,by rw [e1,D5];rfl,?_⟩
 have F:SlI .u64 (B.put b (.cells #[.slice PA q r,.slice NA p x] e)) PA j:=SlI.mono D (SlI.mono l.le C.slV)
 have T:SlI .u64 (B.put b (.cells #[.slice PA q r,.slice NA p x] e)) NA i:=SlI.mono D l.slV
 refine Q9 F dp u rfl C.2.1 o ?_
 intro m1 O M1
 refine ⟨_,_,_,rfl,B3 _,?_⟩
 refine Q9 T V w rfl l.2.1 o ?_
 intro m2 Q M2
 refine ⟨_,_,_,rfl,B3 _,?_⟩
 refine E3 M1 M2 o ⟨_,rfl,?_⟩
 refine B4 (fun y=>?_) (fun y=>?_)
 ·have a:val b64 i<=val b64 j:=by unfold U5 at y;omega
  refine S7 M1 M2 a o ?_
  intro A3 H W X R m M3
  obtain ⟨d,k⟩:=cU (show 0<=val b64 j-val b64 i from o)
  rw [k] at M3
  refine ⟨_,_,_,rfl,G6 (v:=d) M3 m ?_⟩
  grind
 ·have a:val b64 j<=val b64 i:=by
   unfold U5 at y
   omega
  refine S7 M2 M1 a o ?_
  intro A3 H W X R m M3
  obtain ⟨d,k⟩:=cU (show 0<=val b64 i-val b64 j from o)
  rw [k] at M3
  refine ⟨_,_,_,rfl,G6 (v:=d) M3 m ?_⟩
  grind
def Vy(gl:Gtz h)(i:ZI h s A an ac x)(j:ZI h s' B bn bc y)(hx:ZB m x)(hy:ZB m y)(hm:m<=6400000000)(hK:∀ A' n' c' h',h.le h'->ZI h' false A' n' c' (Int.lcm x y:Int)->K (.agg #[.bool false,.slice A' n' c']) h'):aJ prog 253 #[.agg #[.bool s,.slice A an ac],.agg #[.bool s',.slice B bn bc]] h K:=by
 have c:=i.zeroIff
 have d:=j.zeroIff
 have C:=i.len hx hm
 have a:=j.len hy hm
 refine (fnk func253 (own:=[2,3,4])) ?_
 refine E4 (fun l=>?_) (fun V=>E4 (fun l=>?_) (fun M=>?_))
 ·refine hK none 0 0 h (B3 _) ?_
  rw [c.2 o,Int.lcm_zero_left];exact ZI.zero
 ·refine hK none 0 0 h (B3 _) ?_
  rw [d.2 o,Int.lcm_zero_right];exact ZI.zero
 ·refine Ev gl i.mag j.mag i.cap j.cap o o ?_
  intro A3 p Q S b r M3
  refine ⟨_,_,_,rfl,b,?_⟩
  rw [Int.gcd_natCast_natCast] at M3
  have G:Nat.gcd x.natAbs y.natAbs≠0:=fun e=>by
   grind
  have z:p<=100000000:=by
   refine cF (M3.len_le dc (j:=bn) ?_) a
   have u:=j.mag.lt dc
   have n:Nat.gcd x.natAbs y.natAbs<=y.natAbs:=Nat.gcd_le_right _ o
   omega
  refine L6 (j.mag.mono b) M3 j.cap r o o o ?_
  intro A4 q N A5 F R H g E L M4 M5
  refine ⟨_,_,_,_,_,_,rfl,g,?_⟩
  have k:q<=100000000:=by
   refine cF (M4.len_le dc (j:=bn) ?_) a
   have u:=j.mag.lt dc
   have n:=Nat.div_le_self y.natAbs (Nat.gcd x.natAbs y.natAbs)
   omega
  refine D6 (i.mag.mono (A0 b g)) M4 i.cap E o o ?_
  intro A6 O W T D w M6
  refine ⟨_,_,_,rfl,hK _ _ _ _ (A0 b (A0 g D)) ⟨w,?_,?_⟩⟩
  ·have:Int.lcm x y=x.natAbs*(y.natAbs/Nat.gcd x.natAbs y.natAbs):=by
    show Nat.lcm x.natAbs y.natAbs=_
    rw [Nat.lcm,Nat.mul_div_assoc _ (Nat.gcd_dvd_right _ _)]
   grind
  rfl
end
abbrev RQr:aF->QV->Rat->Prop:=fun h w q=>RQ h w q
abbrev NQr:aF->QV->Rat->Prop:=fun h w q=>NQ h w q
abbrev ZIr:aF->IV->Int->Prop:=fun h w z=>ZI h w.s w.A w.n w.c z
abbrev SSr:aF->List UInt8->List UInt8->Prop:=fun _ w s=>w=s
def Mon{α β:Type}(R:aF->α->β->Prop):Prop:=∀ (h h':aF) (w:α) (x:β),h.le h'->R h w x->R h' w x
def Uz:Mon RQr:=fun _ _ _ _ a i=>⟨i.num.mono a,i.den.mono a⟩
def Im:Mon ZIr:=fun _ _ _ _ a i=>i.mono a
def Uy:Mon SSr:=fun _ _ _ _ _ i=>i
instance:Enc QV:=⟨⟨fun w=>[.bool w.s,.slice w.A w.n w.c,.bool w.s2,.slice w.A2 w.n2 w.c2],4,fun _=>rfl,fun w v hv=>by simp at hv;rcases hv with rfl|rfl|rfl|rfl<;>rfl⟩⟩
section
variable {α β:Type}
def Row(R:aF->α->β->Prop)(g:aF)(xs:List α)(n:Nat)(f:Nat->β):Prop:=∀ i,i<n->∃ w,xs[i]? = some w/\R g w (f i)
variable {R:aF->α->β->Prop} {g g' h h':aF} {xs:List α} {n:Nat} {f:Nat->β}
def Row.mono(m:Mon R)(hl:g.le g')(r:Row R g xs n f):Row R g' xs n f:=fun i b=>by
 obtain ⟨w,e,a⟩:=r i b
 exact ⟨w,e,m _ _ _ _ hl a⟩
def Row.nil:Row R g xs 0 f:=fun i a=>by omega
def Row.set{k:Nat}(r:Row R g xs k f)(hk:k<xs.length){w:α}(hw:R g w (f k)):Row R g (xs.set k w) (k+1) f:=fun i a=>by
 by_cases e:i=k
 ·grind
 ·obtain ⟨u,c,b⟩:=r i o
  grind
def Row.upd(r:Row R g xs n f){k:Nat}(hk:k<xs.length){w:α}{y:β}(hw:R g w y):Row R g (xs.set k w) n (fun i=>if i=k then y else f i):=fun i a=>by
 by_cases e:i=k
 ·grind
 ·obtain ⟨u,c,b⟩:=r i a
  grind
def Row.push(r:Row R g xs xs.length f){w:α}(hw:R g w (f xs.length)):Row R g (xs++[w]) (xs++[w]).length f:=fun i a=>by
 by_cases e:i=xs.length
 ·grind
 ·obtain ⟨u,c,b⟩:=r i gz0
  grind
def Row.congr{f':Nat->β}(r:Row R g xs n f)(h:∀ i,i<n->f i=f' i):Row R g xs n f':=fun i a=>by
 obtain ⟨w,e,b⟩:=r i a
 grind
def Row.get(r:Row R g xs n f){i:Nat}(hi:i<n)(hl:i<xs.length):R g xs[i] (f i):=by
 obtain ⟨w,e,a⟩:=r i hi
 grind
variable [E:Enc α]
def RowV(R:aF->α->β->Prop)(h:aF)(A:Option aI)(n:Nat)(f:Nat->β):Prop:=∃ xs:List α,SlF h A xs/\xs.length=n/\Row R h xs n f
def RowV.mono(m:Mon R){A:Option aI}(hl:h.le h')(r:RowV R h A n f):RowV R h' A n f:=by
 obtain ⟨xs,s,e,r⟩:=r
 exact ⟨xs,s.mono hl,e,r.mono m hl⟩
def RowV.nil{A:Option aI}:RowV R h A 0 f:=⟨[],SlF.nil,rfl,Row.nil⟩
def RowV.at(pos:0<E.default.size){A:Option aI}(r:RowV R h A n f){i:Nat}(hi:i<n):∃ a w,A=some a/\R h w (f i)/\∀ j v,(enc w)[j]? = some v->h.cell? (aC (aC a (i*E.default.size)) j)=some v:=by
 obtain ⟨xs,s,e,r⟩:=r
 obtain ⟨a,b,c⟩:=SlF.at pos s (i:=i) o
 exact ⟨a,xs[i],b,r.get hi o,c⟩
structure Own (R:aF->α->β->Prop) (h h':aF) (b n:Nat) (f:Nat->β):Prop where
 ex:∃ g o xs,h.le g/\Sep h' g o/\bN o b xs/\xs.length=n/\Row R g xs n f
def Own.le{b:Nat}(w:Own R h h' b n f):h.le h':=by
 obtain ⟨g,o,xs,l,s,_⟩:=w.ex
 exact A0 l s.le
def Own.vis(m:Mon R){b:Nat}(w:Own R h h' b n f):RowV R h' (some ⟨b,0,none⟩) n f:=by
 obtain ⟨g,o,xs,l,s,r,e,q⟩:=w.ex
 exact ⟨xs,r.rowB.slF s.ole,e,q.mono m s.le⟩
end
section
variable {h:aF} {A:Option aI} {n:Nat}
def RowV.qat{R:aF->QV->Rat->Prop}{f:Nat->Rat}(r:RowV R h A n f){i:Nat}(hi:i<n):∃ a w,A=some a/\R h w (f i)/\h.cell? (aC (aC a (i*4)) 0)=some (.bool w.s)/\h.cell? (aC (aC a (i*4)) 1)=some (.slice w.A w.n w.c)/\h.cell? (aC (aC a (i*4)) 2)=some (.bool w.s2)/\h.cell? (aC (aC a (i*4)) 3)=some (.slice w.A2 w.n2 w.c2):=by
 obtain ⟨a,w,e,d,b⟩:=r.at dc hi
 exact ⟨a,w,e,d,b 0 _ rfl,b 1 _ rfl,b 2 _ rfl,b 3 _ rfl⟩
def RowV.zat{f:Nat->Int}(r:RowV ZIr h A n f){i:Nat}(hi:i<n):∃ a w,A=some a/\ZIr h w (f i)/\h.cell? (aC (aC a (i*2)) 0)=some (.bool w.s)/\h.cell? (aC (aC a (i*2)) 1)=some (.slice w.A w.n w.c):=by
 obtain ⟨a,w,e,d,b⟩:=r.at dc hi
 exact ⟨a,w,e,d,b 0 _ rfl,b 1 _ rfl⟩
def RowV.sat{f:Nat->List UInt8}(r:RowV SSr h A n f){i:Nat}(hi:i<n):∃ a,A=some a/\h.cell? (aC a (i*1))=some (.string (bs (f i))):=by
 obtain ⟨a,w,e,c,d⟩:=r.at dc hi
 have b:w=f i:=c
 subst b
 refine ⟨a,e,?_⟩
 have:=d 0 _ rfl
 assumption
end
end Go.Proofs.YtdphgbjaijlckaaGreatDoor
namespace Go.Proofs.YtdphgbjaijlckaaGreatDoor
set_option maxRecDepth 20000
def sm:Nat->(Nat->Rat)->Rat
 | 0,_=>0
 | n+1,f=>sm n f+f n
def rhx(l i:Nat):Nat:=if i<l then i else i+1
def sg(n:Nat):Rat:=if n%2=0 then 1 else -1
def dt:Nat->(Nat->Nat->Rat)->Rat
 | 0,_=>1
 | k+1,X=>sm (k+1) fun l=>sg (k+l)*X k l*dt k (fun c r=>X c (rhx l r))
def rc(X:Nat->Nat->Rat)(m:Nat)(y:Nat->Rat):Nat->Nat->Rat:=fun c r=>if c=m then y r else X c r
def Wh(q:Rat):Prop:=∃ z:Int,q=(z:Rat)
structure Elim (n w:Nat) (B R:Nat->Nat->Rat) (cs:Nat->Nat) (k:Nat):Prop where
 kn:k<=n
 cw:∀ m,m<k->cs m<w
 piv:∀ l m,l<k->m<k->R l (cs m)=if l=m then 1 else 0
 low:∀ i m,i<n->k<=i->m<k->R i (cs m)=0
 top:∀ l j,l<k->j<w->B l j=sm k fun m=>B l (cs m)*R m j
 bot:∀ i j,i<n->k<=i->j<w->B i j=R i j+sm k fun m=>B i (cs m)*R m j
def dp(B:Nat->Nat->Rat)(cs:Nat->Nat)(k:Nat):Rat:=dt k fun c r=>B r (cs c)
section
variable {n w:Nat} {B R:Nat->Nat->Rat} {cs:Nat->Nat} {k:Nat}
end
end Go.Proofs.YtdphgbjaijlckaaGreatDoor
namespace Go.Proofs.YtdphgbjaijlckaaGreatDoor
set_option maxRecDepth 20000
structure ES where
 R:Nat->Nat->Rat
 cs:List Nat
 det:Rat
structure PS where
 M:Nat->Nat->Int
 S:Nat->Rat
 cs:List Nat
 last:Int
 sgn:Int
def pr:Nat->(Nat->Rat)->Rat
 | 0,_=>1
 | n+1,f=>pr n f*f n
structure ERel (n w c:Nat) (A:Nat->Nat->Rat) (s:ES) (t:PS):Prop where
 cs:s.cs=t.cs
 elim:∃ B,(∀ i j,i<n->j<w->Wh (B i j))/\Elim n w B (fun i j=>if i<s.cs.length then s.R i j else t.S i*s.R i j) (fun m=>s.cs.getD m 0) s.cs.length/\(t.last:Rat)=dp B (fun m=>s.cs.getD m 0) s.cs.length
 last:t.last≠0
 val:∀ i j,i<n->j<w->(t.M i j:Rat)=t.last*(if i<s.cs.length then s.R i j else t.S i*s.R i j)
 scale:∀ i,i<n->t.S i≠0
 zero:∀ i j,i<n->s.cs.length<=i->j<c->s.R i j=0
 asc:s.cs.length<=c
 det:s.cs.length=c->s.det*pr s.cs.length t.S=t.sgn*t.last
 miss:s.cs.length<c->s.cs.length<n->s.det=0
 sgn:t.sgn=1\/t.sgn= -1
def Ki{z:Int}(h:z≠0):(z:Rat)≠0:=by
 simp_all
end Go.Proofs.YtdphgbjaijlckaaGreatDoor
namespace Go.Proofs.YtdphgbjaijlckaaGreatDoor
set_option maxRecDepth 20000
structure SzE (n w m:Nat) (s:ES):Prop where
 R:∀ a b,a<n->b<w->Sz (7^s.cs.length*m) (s.R a b)
 det:Sz (7^s.cs.length*m) s.det
 len:s.cs.length<=n
structure ZbP (n w m l:Nat) (s:PS):Prop where
 M:∀ a b,a<n->b<w->ZB (3^s.cs.length*m) (s.M a b)
 last:ZB (3^s.cs.length*m) s.last
 S:∀ a,a<n->Sz l (s.S a)
 len:s.cs.length<=n
structure Asc (l:List Nat) (c:Nat):Prop where
 lt:∀ x∈l,x<c
 asc:l.Pairwise (· < ·)
def A04(z:Int)(l:List aX):iAt (I z::l) 0=z:=rfl
def Oe:prog.cellsOf 93=4/\(prog.info? 93).isSome=true:=A0i
section
variable {α β:Type} [E:Enc α] {R:aF->α->β->Prop}
def OwnK(R:aF->α->β->Prop)(h h':aF)(b n k:Nat)(f:Nat->β):Prop:=∃ g o xs,h.le g/\Sep h' g o/\bN o b xs/\xs.length=n/\Row R g xs k f
def OwnK.zero{h:aF}{b n:Nat}{f:Nat->β}{e:aO}{z:α}(hb:h b=none):OwnK R h (A2x e h b (aQ n z)) b n 0 f:=
 ⟨h,Ij.put b (.cells ((aQ n z).flatMap enc).toArray e),aQ n z,B3 _,Cm hb,RowX.mk,by simp,Row.nil⟩
def OwnK.store(m:Mon R){P:aW}{t:aO}(one:P.cellsOf t=E.default.size/\(P.info? t).isSome=true){h h' g g' o:aF}{b n k:Nat}{f:Nat->β}{xs:List α}(lg:h.le g)(lg':g.le g')(s:Sep h' g' o)(rb:bN o b xs)(hn:xs.length=n)(r:Row R g xs k f)(hk:k<n){v:aX}{y:α}(hv:v.cells=(enc y).toArray)(hy:R g' y (f k)){K:Unit->aF->Prop}
 (x:∀ h2,OwnK R h h2 b n (k+1) f->K () h2):wpH P (aT t (.pointer (some (aC ⟨b,0,none⟩ (k*E.default.size)))) v) K h':=by
 refine S0 one hv s rb oo ?_
 intro h2 d i e c a
 exact x h2 ⟨g',d,_,A0 lg lg',c,a,gz0,(r.mono m lg').set oo hy⟩
end
def A54:QV:=⟨false,none,0,0,false,none,0,0⟩
section
variable {h:aF} {K:VP} {A:Option aI} {n c m:Nat} {ls:Nat->List UInt8} {f:Nat->Rat} {a w:QV} {q:Rat}
def Gt(gl:Gl h)(r:RowV SSr h A n ls)(hn:n<=1000000)(hl:∀ i,i<n->(ls i).length<=140737488351232)
 (hK1:(∀ i,i<n->cL (ls i))->∀ b h',Own RQr h h' b n (fun i=>rv (ls i))->K (.tuple #[.slice (some ⟨b,0,none⟩) n n,.bool true]) h')
 (hK0:¬ (∀ i,i<n->cL (ls i))->∀ h',h.le h'->K (.tuple #[.slice none 0 0,.bool false]) h'):aJ prog 94 #[.slice A n c] h K:=by
 refine (fnk func94 [(3,[14],[],[I 0])] (own:=[7])) ?_
 refine T5 A9m (zx:=A54) rfl oo oo oo oo ?_
 intro b N
 refine ⟨_,_,_,rfl,fun L x=>∃ k:Nat,k<=n/\L=[I k]/\(∀ i,i<k->cL (ls i))/\OwnK RQr h x b n k (fun i=>rv (ls i)),fun L _=>n-(iAt L 0).toNat,⟨0,oo,rfl,fun i R=>oo,OwnK.zero N⟩,?_⟩
 rintro t x ⟨k,T,V,m,g,o,xs,j,s,E,F,D⟩
 obtain rfl:t=(k:Int):=gz0
 refine B4 (fun M=>?_) (fun G=>?_)
 ·have d:k<n:=oo
  obtain ⟨a,rfl,S⟩:=(r.mono Uy (A0 j s.le)).sat d
  refine ⟨a,rfl,oo,oo,_,S,?_⟩
  refine s.call (Cg (gl.mono j).tz (hl k d) ?_ ?_)
  ·intro q e w C z H B u
   refine ⟨_,_,_,_,_,_,_,_,_,rfl,_,rfl,oo,oo,?_⟩
   refine OwnK.store Uz Oe (y:=w) j z u E F D d rfl (by show RQ C w (rv (ls k));rw [e,C1];exact H) ?_
   intro W Q
   rw [wiS k oo]
   refine ⟨⟨k+1,oo,rfl,fun i R=>?_,Q⟩,?_⟩
   ·by_cases O:i=k
    ·subst O;exact ⟨q,e⟩
    grind
   ·simp only [A04];omega
  ·intro p w C z _ B u
   exact ⟨_,_,_,_,_,_,_,_,_,rfl,hK0 (fun l=>p (l k d)) B (A0 j (A0 z u.le))⟩
 ·have:k=n:=oo
  subst this
  exact hK1 m b x ⟨g,o,xs,j,s,E,F,D⟩
def Ts(f:Nat->Rat):Nat->Nat
 | 0=>1
 | n+1=>Nat.lcm (Ts f n) (f n).den
def A1d(f:Nat->Rat):∀ n,0<Ts f n:=by
 intro n
 induction n with
 | zero=>exact Nat.one_pos
 | succ n ih=>exact Nat.lcm_pos ih (f n).den_pos
def A1e(f:Nat->Rat):∀ n i,i<n->(f i).den∣Ts f n:=by
 intro n
 induction n with
 | zero=>omega
 | succ n ih=>
  intro i a
  by_cases e:i=n
  ·subst e;exact Nat.dvd_lcm_right _ _
  ·exact Nat.dvd_trans (ih i o) (Nat.dvd_lcm_left _ _)
def ZB.lcm{k j:Nat}{x y:Nat}(hx:ZB k (x:Int))(hy:ZB j (y:Int)):ZB (k+j) ((Nat.lcm x y:Nat):Int):=by
 have:=hx.mul hy
 refine Nat.lt_of_le_of_lt ?_ this
 exact Nat.div_le_self _ _
def Yi{f:Nat->Rat}{m:Nat}: ∀ n,(∀ i,i<n->Sz m (f i))->ZB (1+n*m) (Ts f n:Int):=by
 intro n
 induction n with
 | zero=>intro _;exact ZB.one o
 | succ n ih=>
  intro h
  have:=(ih fun i a=>h i o).lcm (h n o).den
  exact this.mono gz0
def Jx(gl:Gl h)(r:RowV RQr h A n f)(hn:n<=1000000)(hs:∀ i,i<n->Sz m (f i))(hm:1+n*m+m<=6400000000)
 (hK:∀ s A' n' c' h',h.le h'->ZI h' s A' n' c' (Ts f n:Int)->K (.agg #[.bool s,.slice A' n' c']) h'):aJ prog 208 #[.slice A n c] h K:=by
 refine (fnk func208 [(3,[9],[(3,2)],[I 0,.bool false,.slice none 0 0])] (own:=[2,3,5])) ?_
 refine Hv o o ?_
 intro s1 A1 n1 c1 C l1 i1
 refine ⟨_,_,_,_,rfl,fun L y=>∃ (k:Nat) (s:Bool) (B:Option aI) (q u:Nat),k<=n/\L=[I k,.bool s,.slice B q u]/\h.le y/\ZI y s B q u (Ts f k:Int),fun L _=>n-(iAt L 0).toNat,⟨0,_,_,_,_,o,rfl,l1,i1⟩,?_⟩
 rintro t s B q u y ⟨k,D,B',p,j,hk,W,l,i⟩
 obtain ⟨rfl,rfl,rfl,rfl,rfl⟩:=W
 have H:B7 ((k:Int)+1)=((k+1:Nat):Int):=by rw [B5]<;>omega
 refine B4 (fun R=>?_) (fun N=>?_)
 ·have x:k<n:=o
  obtain ⟨a,w,rfl,F,X,T,O,Q⟩:=(r.mono Uz l).qat x
  have d:1+k*m+m<=6400000000:=by
   have:k*m<=n*m:=bG _ o
   omega
  have S:=(Yi k fun i hi=>hs i o).mono (show 1+k*m<=1+k*m+m from o)
  have M:=(hs k x).den.mono (show m<=1+k*m+m from o)
  refine ⟨_,rfl,o,o,_,_,_,_,_,_,_,_,X,T,O,Q,?_⟩
  refine H2 F.den ⟨_,rfl,?_⟩
  have z:((if (f k).den=1 then 0 else ((f k).den:Int))=0)↔(f k).den=1:=by
   have:=(f k).den_pos
   omega
  have g:Ts f (k+1)=Ts f k->(∃ (k':Nat) (D:Bool) (B':Option aI) (p j:Nat),k'<=n/\[I (B7 ((k:Int)+1)),.bool s,.slice B q u]=[I k',.bool D,.slice B' p j]/\h.le y/\ZI y D B' p j (Ts f k':Int))/\n-(iAt [I (B7 ((k:Int)+1)),.bool s,.slice B q u] 0).toNat<n-(iAt [I (k:Int),.bool s,.slice B q u] 0).toNat:=by
   intro e
   rw [H]
   exact ⟨⟨k+1,_,_,_,_,o,rfl,l,gz0⟩,by simp only [A04];omega⟩
  refine Br.not (B4 (fun C=>?_) (fun C=>?_))
  ·have E:=z.1 C
   exact g (by rw [Ts,E];grind)
  ·have E:(if (f k).den=1 then 0 else ((f k).den:Int))=((f k).den:Int):=iN fun e=>C (z.2 e)
   have b:=F.den
   rw [E] at b
   refine Qr b i M d ⟨_,rfl,?_⟩
   refine Br.not (B4 (fun G=>?_) (fun G=>?_))
   ·have V:(f k).den=Ts f k:=by exact_mod_cast G
    exact g (by rw [Ts,V];grind)
   ·refine Vy (gl.mono l).tz i b S M d ?_
    intro A' n' c' h' l' i'
    refine ⟨_,_,_,_,rfl,?_⟩
    rw [H]
    refine ⟨⟨k+1,_,_,_,_,o,rfl,A0 l l',?_⟩,by simp only [A04];omega⟩
    assumption
 grind
def scl(q:Rat)(d:Int):Int:=q.num*d.tdiv q.den
def Ya(q:Rat):q*(q.den:Rat)=(q.num:Rat):=by
 have h:=Rat.num_divInt_den q
 rw [Rat.divInt_eq_div] at h
 have a:((q.den:Int):Rat)≠0:=Ki (den_ne q)
 have e:((q.den:Int):Rat)=(q.den:Rat):=rfl
 grind
def A5k{q:Rat}{d:Int}(h:(q.den:Int)∣d):(scl q d:Rat)=q*d:=by
 obtain ⟨e,rfl⟩:=h
 unfold scl
 rw [Int.mul_tdiv_cancel_left _ (den_ne q),aZ,aZ]
 have a:q*(q.den:Rat)=(q.num:Rat):=Ya q
 have b:(((q.den:Nat):Int):Rat)=(q.den:Rat):=rfl
 grind
def A5j{q:Rat}{d:Int}{k:Nat}(hq:Sz m q)(hd:ZB k d):ZB (m+k) (scl q d):=hq.num.mul hd.tdiv
def Ri{s:Bool}{B:Option aI}{bn bc:Nat}{d:Int}(i:RQ h w q)(j:ZI h s B bn bc d)(hq:Sz m q)(hd:ZB m d)(hm:m<=6400000000)
 (hK:∀ s A' n' c' h',h.le h'->ZI h' s A' n' c' (scl q d)->K (.agg #[.bool s,.slice A' n' c']) h'):aJ prog 161 #[w.v,.agg #[.bool s,.slice B bn bc]] h K:=by
 refine (fnk func161 (own:=[2,3,4])) ?_
 refine H2 i.den ⟨_,rfl,?_⟩
 have c:((if q.den=1 then 0 else (q.den:Int))=0)↔q.den=1:=by
  have:=q.den_pos
  omega
 refine B4 (fun g=>?_) (fun g=>?_)
 ·refine G1 i.num j hq.num hd o ?_
  intro u A' n' c' h' p C
  refine ⟨_,_,_,_,rfl,hK _ _ _ _ _ p ?_⟩
  have:scl q d=q.num*d:=by unfold scl;simp_all
  grind
 ·have n:(if q.den=1 then 0 else (q.den:Int))=(q.den:Int):=iN fun e=>g (c.2 e)
  have a:=i.den
  rw [n] at a
  refine N3 j a hd hq.den hm (den_ne q) ?_
  intro u A1 A c1 x b l
  refine ⟨_,_,_,_,rfl,b,?_⟩
  refine G1 (i.num.mono b) l hq.num hd.tdiv o ?_
  intro y A2 D c2 z k r
  exact ⟨_,_,_,_,rfl,k,hK _ _ _ _ _ (A0 b k) r⟩
end
instance:Enc Int:=⟨⟨fun z=>[I z],1,fun _=>rfl,fun z v hv=>by rw [List.mem_singleton.1 hv];rfl⟩⟩
abbrev IIr:aF->Int->Int->Prop:=fun _ w z=>w=z
section
variable {α:Type} [E:Enc α]
def OwnSl(o:aF)(e:aO)(A:Option aI)(c:Nat)(xs:List α):Prop:=
 xs.length<=c/\((c=0/\A=none)\/∃ b arr,A=some ⟨b,0,none⟩/\o b=some (.cells (cW arr) e)/\arr.length=c*E.default.size/\arr.take (xs.length*E.default.size)=xs.flatMap enc)
def OwnSl.rowB{o:aF}{e:aO}{A:Option aI}{c:Nat}{xs:List α}(w:OwnSl o e A c xs)(hne:xs≠[]):∃ b,A=some ⟨b,0,none⟩/\RowB o b xs:=by
 rcases w.2 with k|⟨b,a,i,g,j,d⟩
 ·exfalso
  have:=w.1
  simp_all
 ·exact ⟨b,i,e,a.drop (xs.length*E.default.size),by rw [g,<- d,bC]⟩
def OwnSl.slF{o h:aF}{e:aO}{A:Option aI}{c:Nat}{xs:List α}(w:OwnSl o e A c xs)(hl:o.le h):SlF h A xs:=by
 by_cases a:xs=[]
 ·rw [a];exact SlF.nil
 ·obtain ⟨b,rfl,r⟩:=w.rowB a
  exact r.slF hl
def OwnSl.priv{h g o:aF}{e:aO}{A:Option aI}{c:Nat}{xs:List α}(s:Sep h g o)(w:OwnSl o e A c xs):∃ gb,PrivF h gb e A c xs/\∀ k x,h k=some x->A≠some ⟨k,0,none⟩->gb k=some x:=by
 rcases w.2 with ⟨m,l⟩|⟨b,a,p,n,j,i⟩
 ·subst m
  have q:xs=[]:=List.eq_nil_of_length_eq_zero (by have:=w.1;omega)
  subst q
  exact ⟨h,PrivF.nil h e A,fun k x e _=>e⟩
 ·refine ⟨h.without b,⟨L5 xs,w.1,.inr ⟨b,a,p,F3 _ _,(L7 (s.own b _ n)).symm,j,i⟩⟩,fun k x e d=>?_⟩
  unfold Heap.without
  grind
def OwnSl.push{P:aW}{t e ty:aO}{z:aX}{bytes:Nat}(st:SliceT P t e z E.default.size bytes){h g o:aF}{A:Option aI}{c:Nat}{xs:List α}(s:Sep h g o)(w:OwnSl o e A c xs){v:aX}{y:α}(hv:v.cells=(enc y).toArray)(hsz:E.default.size<=1000)
 (hb:(2*(xs.length+1)+192)*bytes<=281474976710656) (hn:xs.length+1<=9223372036854775807) {K1:aF->Prop} {K:Option aI->Nat->Nat->aF->Prop}
 (x0:∀ h1,h.le h1->K1 h1)
 (x:∀ A' c' h' g' o',g.le g'->Sep h' g' o'->OwnSl o' e A' c' (xs++[y])->(∀ k u,o k=some u->A≠some ⟨k,0,none⟩->o' k=some u/\A'≠some ⟨k,0,none⟩)->K A' (xs.length+1) c' h'):
 wpH P (bM t 1 #[(0,v)]) (fun v' hp=>∃ (B:Option aI) (m d:Nat),v'= .slice B m d/\K1 hp/\wpH P (bX #[t,t] ty #[.slice A xs.length c,.slice B m d]) (fun v1 hp1=>∃ (A':Option aI) (n' c':Nat),v1= .slice A' n' c'/\K A' n' c' hp1) hp) h:=by
 obtain ⟨T,p,N⟩:=w.priv s
 refine Ip st (vs:=[v]) (fun u hu=>by rw [List.mem_singleton.1 hu,hv];simp [E.default.len]) rfl gz0 rfl ?_
 intro b i
 have M:[v].flatMap (fun v=>v.cells.toList)=[y].flatMap enc:=by simp [hv]
 rw [M]
 refine ⟨_,_,_,rfl,x0 _ (Heap.le_put _ i),?_⟩
 have p':PrivF (h.put b (.cells ([y].flatMap enc).toArray e)) (T.put b (.cells ([y].flatMap enc).toArray e)) e A c xs:=Priv.put p i _
 refine Gg st p' (ys:=[y]) rfl (Zj e h b [y]) hb hn ?_
 intro A' c' h' g' W hp
 refine ⟨_,_,_,rfl,?_⟩
 rw [aP]
 have r:∀ k u,h k=some u->A≠some ⟨k,0,none⟩->g' k=some u:=by
  intro k u a R
  have l:k≠b:=gz0
  exact W k u (by rw [B6 _ _ l];grind)
 have L:∀ k u,g k=some u->A≠some ⟨k,0,none⟩:=by
  intro k u a C
  rcases w.2 with ⟨_,h0⟩|⟨q,n,j,D,_⟩
  ·grind
  ·rw [C] at j
   simp only [Option.some.injEq,Addr.mk.injEq,and_true] at j
   subst j
   rw [s.dis k _ D] at a;cases a
 rcases hp.2.2 with ⟨S,_⟩|⟨q,n,j,D,F,ha,V⟩
 ·exfalso
  have:=hp.2.1
  grind
 ·subst j
  let o':aF:=fun k=>if k=q then some (.cells (cW n) e) else if A=some ⟨k,0,none⟩ then none else o k
  have Q:o' q=some (.cells (cW n) e):=gz0
  have ok:∀ k,k≠q->A≠some ⟨k,0,none⟩->o' k=o k:=fun k h1 H=>by grind
  let g2:aF:=fun k=>match o' k with|some _=>none|none=>h' k
  have gs:∀ k u,o' k=some u->g2 k=none:=fun k u a=>by grind
  have gn:∀ k,o' k=none->g2 k=h' k:=fun k a=>by grind
  have G:∀ k u,k≠q->g' k=some u->h' k=some u:=fun k u h1 a=>by rw [F,B6 _ _ h1];exact a
  have O:∀ k u,o k=some u->A≠some ⟨k,0,none⟩->k≠q:=by
   rintro k u a H rfl
   have:=r k u (s.own k u a) H
   grind
  refine x _ c' h' g2 o' (fun k u a=>?_) ⟨fun k u a=>?_,fun k a=>(gn k a).symm,gs⟩ ⟨hp.2.1,.inr ⟨q,n,rfl,Q,ha,V⟩⟩ (fun k u a H=>?_)
  ·have X:o k=none:=by
    cases ho:o k with
    | none=>rfl
    | some y=>rw [s.dis k y ho] at a;cases a
   have C:=L k u a
   have e3:=r k u (s.le k u a) C
   grind
  ·by_cases l:k=q
   ·subst l
    rw [Q] at a;cases a
    rw [F,B8]
   ·by_cases C:A=some ⟨k,0,none⟩
    ·grind
    ·rw [ok k l C] at a
     exact G k u l (r k u (s.own k u a) C)
  grind
end
structure Tb where
 bt:Nat
 bE:Nat
 bS:Nat
 rows:Nat
 cols:Nat
 cE:Nat
 cS:Nat
structure Tab (h g o:aF) (T:Tb) (M:Nat->Nat->Int) (S:Nat->Rat):Prop where
 sep:Sep h g o
 n1:T.bt≠T.bE
 n2:T.bt≠T.bS
 n3:T.bE≠T.bS
 head:∃ e,o T.bt=some (.cells #[I T.cols,.slice (some ⟨T.bE,0,none⟩) (T.rows*T.cols) T.cE,.slice (some ⟨T.bS,0,none⟩) T.rows T.cS] e)
 elems:∃ ws:List IV,RowB o T.bE ws/\ws.length=T.rows*T.cols/\∀ i j,i<T.rows->j<T.cols->∃ w,ws[i*T.cols+j]? = some w/\ZIr g w (M i j)
 scales:∃ ss:List QV,RowB o T.bS ss/\ss.length=T.rows/\Row RQr g ss T.rows S
 cE:T.rows*T.cols<=T.cE
 cS:T.rows<=T.cS
 small:T.rows<=10000/\T.cols<=10000
 pos:0<T.cols
section
variable {h g o:aF} {T:Tb} {M:Nat->Nat->Int} {S:Nat->Rat} {K:VP} {m:Nat}
def Sep.le_le{h' g':aF}(s:Sep h g o)(s':Sep h' g' o)(l:g.le g'):h.le h':=fun k x e=>by
 cases ho:o k with
 | some y=>rw [s.own k y ho] at e;rw [s'.own k y ho];exact e
 | none=>rw [s.rest k ho] at e;rw [s'.rest k ho];exact l k x e
end
def A43{m k:Nat}(hm:1<=m)(hk:k<4611686018427387904):(k:Int)*2^(2*m)<b64^m:=by
 have e:b64^m=(2:Int)^(2*m)*2^(62*m):=by
  have:b64=(2:Int)^64:=dc
  rw [this,<- Int.pow_mul,<- Int.pow_add]
  grind
 have a:(2:Int)^62<=2^(62*m):=C8 dc o
 have c:(k:Int)<2^62:=by
  omega
 have b:(0:Int)<2^(2*m):=bH dc
 rw [e,Int.mul_comm]
 exact Int.mul_lt_mul_of_pos_left (Int.lt_of_lt_of_le c a) b
section
variable {h g o:aF} {T:Tb} {M:Nat->Nat->Int} {S:Nat->Rat} {K:VP} {m:Nat}
def A0k:(prog.info? 205).map (·.zero)=some (some (.agg #[.slice none 0 0,.slice none 0 0])):=by kernel_rfl
def Sv{α:Type}[E:Enc α]{P:aW}{t e ty:aO}{z:aX}{bytes:Nat}(st:SliceT P t e z E.default.size bytes){h g o:aF}{A:Option aI}{c n:Nat}{xs:List α}(s:Sep h g o)(w:OwnSl o e A c xs)(hxn:n=xs.length){v:aX}{y:α}(hv:v.cells=(enc y).toArray)(hsz:E.default.size<=1000)
 (hb:(2*(xs.length+1)+192)*bytes<=281474976710656) (hn:xs.length+1<=9223372036854775807) {K:Option aI->Nat->Nat->aF->Prop}
 (x:∀ A' c' h' g' o',g.le g'->Sep h' g' o'->OwnSl o' e A' c' (xs++[y])->(∀ k u,o k=some u->A≠some ⟨k,0,none⟩->o' k=some u/\A'≠some ⟨k,0,none⟩)->K A' (xs.length+1) c' h'):
 wpH P (bM t 1 #[(0,v)]) (fun v' hp=>∃ (B:Option aI) (m d:Nat),v'= .slice B m d/\wpH P (bX #[t,t] ty #[.slice A n c,.slice B m d]) (fun v1 hp1=>∃ (A':Option aI) (n' c':Nat),v1= .slice A' n' c'/\K A' n' c' hp1) hp) h:=by
 refine Cb _ (OwnSl.push (ty:=ty) st s w hv hsz hb hn (K1:=fun _=>True) (K:=K) (fun _ _=>trivial) x) ?_
 grind
abbrev zs(l:List Nat):List Int:=l.map fun (n:Nat)=>(n:Int)
end
abbrev Ivl:=List UInt8 × List UInt8
def U1{X Y:Prop}(y:Y):Br (!true) X Y:=y
def Y3{X Y:Prop}(x:X):Br (!false) X Y:=x
def My(z:Int)(l:List aX):iAt (I z::l) 0=z:=rfl
section
variable {h:aF} {K:VP} {A B:Option aI} {ts:List H8} {vars:Int} {c:Nat}
def S1{i:Nat}(h:i<=9223372036854775806):B7 ((i:Int)+1)=((i+1:Nat):Int):=by rw [B5]<;>omega
def Iq(pa:cA h A ts)(hK1:ts.length<=5->(∀ i,i<ts.length->(tm ts i).1.length<=8/\(tm ts i).2.length<=12)->K (.bool true) h)(hK0:¬ (ts.length<=5/\∀ i,i<ts.length->(tm ts i).1.length<=8/\(tm ts i).2.length<=12)->K (.bool false) h):aJ prog 42 #[.agg #[I vars,.slice A ts.length c],I 5,I 8] h K:=by
 refine (fnk func42 [(4,[7],[],[I 0])] (own:=[3])) ?_
 refine B4 (fun e=>hK0 fun x=>o) (fun e=>?_)
 refine ⟨fun L g=>∃ i:Nat,i<=ts.length/\L=[I (i:Int)]/\g=h/\∀ j,j<i->(tm ts j).1.length<=8/\(tm ts j).2.length<=12,fun L _=>ts.length-(iAt L 0).toNat,⟨0,o,rfl,rfl,fun j l=>o⟩,?_⟩
 rintro z g ⟨i,C,u,rfl,m⟩
 obtain rfl:=sI1 u
 refine B4 (fun q=>?_) (fun n=>hK1 o fun j l=>m j o)
 have b:i<ts.length:=o
 obtain ⟨a,D,d,k,s,r,B⟩:=pa i b
 refine ⟨a,k,o,o,_,s,?_⟩
 rw [I9]
 refine B4 (fun e=>hK0 fun x=>by have:=(x.2 i b).1;omega) (fun w=>⟨a,k,o,o,_,_,_,r,B4 (fun e=>hK0 fun x=>by have:=(x.2 i b).2;omega) (fun y=>?_)⟩)
 rw [S1 o]
 refine ⟨⟨i+1,o,rfl,rfl,fun j l=>?_⟩,by simp only [My];omega⟩
 by_cases p:j=i
 ·rw [p];exact ⟨o,o⟩
 ·exact m j o
def Yk{dg:Int}(pa:cA h A ts)(hts:ts.length<=1000000)(hex:∀ i,i<ts.length->(tm ts i).2.length<=1000000)(hK1:vars<=6->(∀ i,i<ts.length->∀ j,j<(tm ts i).2.length->(tm ts i).2.getD j 0<=dg)->K (.bool true) h)(hK0:¬ (vars<=6/\∀ i,i<ts.length->∀ j,j<(tm ts i).2.length->(tm ts i).2.getD j 0<=dg)->K (.bool false) h):aJ prog 43 #[.agg #[I vars,.slice A ts.length c],I 6,I dg] h K:=by
 refine (fnk func43 [(4,[7],[],[I 0]),(7,[8],[],[I 0])] (own:=[3])) ?_
 refine B4 (fun e=>hK0 fun x=>o) (fun e=>?_)
 refine ⟨fun L q=>∃ i:Nat,i<=ts.length/\L=[I (i:Int)]/\q=h/\∀ g,g<i->∀ j,j<(tm ts g).2.length->(tm ts g).2.getD j 0<=dg,fun L _=>ts.length-(iAt L 0).toNat,⟨0,o,rfl,rfl,fun j m=>o⟩,?_⟩
 rintro z q ⟨i,T,H,rfl,u⟩
 obtain rfl:=sI1 H
 refine B4 (fun E=>?_) (fun C=>hK1 o fun j m=>u j o)
 have b:i<ts.length:=o
 obtain ⟨a,D,d,y,S,B,N⟩:=pa i b
 have M:=hex i b
 refine ⟨fun L p=>∃ k:Nat,k<=(tm ts i).2.length/\L=[I (k:Int)]/\p=q/\∀ j,j<k->(tm ts i).2.getD j 0<=dg,fun L _=>(tm ts i).2.length-(iAt L 0).toNat,⟨0,o,rfl,rfl,fun j m=>o⟩,?_⟩
 rintro R G ⟨k,Q,n,rfl,l⟩
 obtain rfl:=sI1 n
 refine ⟨a,y,o,o,_,_,_,B,B4 (fun w=>?_) (fun s=>?_)⟩
 ·refine ⟨a,y,o,o,_,_,_,B,?_⟩
  refine N.load rfl o o ?_
  rw [aE]
  refine B4 (fun e=>hK0 fun x=>by have:=x.2 i b k o;omega) (fun O=>?_)
  rw [S1 o]
  refine ⟨⟨k+1,o,rfl,rfl,fun j m=>?_⟩,by simp only [My];omega⟩
  by_cases r:j=k
  ·rw [r];omega
  ·exact l j o
 ·rw [S1 o]
  refine ⟨⟨i+1,o,rfl,rfl,fun g F j m=>?_⟩,by simp only [My];omega⟩
  by_cases r:g=i
  ·subst r;exact l j o
  ·exact u g o j m
def Ct(l:List Ivl):Prop:=∀ x∈l,Qi x.1 x.2
def Cv{l:List Ivl}{n:Nat}(gl:Gl h)(x:SlV h A (l.flatMap F8))(hn:n=l.length)(hl:l.length<=1000000)(ht:∀ x∈l,x.1.length<=20/\x.2.length<=20)(hK1:Ct l->K (.bool true) h)(hK0:¬ Ct l->K (.bool false) h):aJ prog 90 #[.slice A n c] h K:=by
 subst hn
 refine (fnk func90 [(2,[7],[],[I 0])] (own:=[4])) ?_
 refine ⟨fun L r=>∃ i:Nat,i<=l.length/\L=[I (i:Int)]/\r=h/\∀ j (b:j<l.length),j<i->Qi l[j].1 l[j].2,fun L _=>l.length-(iAt L 0).toNat,⟨0,o,rfl,rfl,fun j _ b=>o⟩,?_⟩
 rintro z r ⟨i,O,N,rfl,s⟩
 obtain rfl:=sI1 N
 refine B4 (fun C=>?_) (fun u=>hK1 fun y G=>?_)
 ·have e:i<l.length:=o
  obtain ⟨a,E,c0,c1⟩:=Iu x e
  obtain ⟨D,w⟩:=ht _ (aK e)
  refine ⟨a,E,o,o,_,_,c0,c1,?_⟩
  refine J8 (m:=80) gl (P7 (k:=20) D o o) (P7 (k:=20) w o o) o (fun p q M F g=>⟨_,rfl,U1 ?_⟩) (fun d=>⟨_,rfl,Y3 (hK0 fun x=>d (x _ (aK e)))⟩)
  rw [S1 o]
  refine ⟨⟨i+1,o,rfl,rfl,fun j b H=>?_⟩,by simp only [My];omega⟩
  by_cases B:j=i
  ·subst B;exact ⟨p,q,M,F,g⟩
  ·exact s j b o
 ·obtain ⟨j,b,rfl⟩:=List.getElem_of_mem G
  exact s j b o
def Pl{i:Nat}(pa:cA h A ts)(hts:ts.length<=1000000)(hi:∀ t,t<ts.length->i<(tm ts t).2.length)(hK:∀ most:Int,0<=most->(∀ t,t<ts.length->(tm ts t).2.getD i 0<=most)->(∀ B:Int,0<=B->(∀ t,t<ts.length->(tm ts t).2.getD i 0<=B)->most<=B)->K (I most) h):aJ prog 91 #[.agg #[I vars,.slice A ts.length c],I (i:Int)] h K:=by
 refine (fnk func91 [(3,[5,11],[],[I 0,I 0])] (own:=[2,7])) ?_
 refine ⟨fun L p=>∃ (k:Nat) (most:Int),k<=ts.length/\L=[I most,I (k:Int)]/\p=h/\0<=most/\(∀ t,t<k->(tm ts t).2.getD i 0<=most)/\(∀ B:Int,0<=B->(∀ t,t<k->(tm ts t).2.getD i 0<=B)->most<=B),fun L _=>ts.length-(iAt L 1).toNat,⟨0,0,o,rfl,rfl,o,fun t g=>o,fun B j _=>j⟩,?_⟩
 rintro m z p ⟨k,most,M,n,rfl,u,q,j⟩
 simp only [bW,bU,true_and,and_true] at n
 obtain ⟨rfl,rfl⟩:=n
 refine B4 (fun s=>?_) (fun r=>hK m u (fun t g=>q t o) fun B l e=>j B l fun t g=>e t o)
 have b:k<ts.length:=o
 obtain ⟨a,D,d,F,y,G,H⟩:=pa k b
 have E:=hi k b
 refine ⟨a,F,o,o,_,_,_,_,y,G,?_⟩
 refine H.load rfl o o ?_
 rw [aE,S1 o]
 generalize hx:(tm ts k).2.getD i 0=x at *
 refine ⟨⟨k+1,if x>m then x else m,o,rfl,rfl,by split<;>omega,fun t g=>?_,fun B l e=>?_⟩,?_⟩
 ·by_cases C:t=k
  ·subst C;rw [hx];split<;>omega
  ·have:=q t o;split<;>omega
 ·have N:=j B l fun t g=>e t o
  have w:=e k o
  rw [hx] at w
  split<;>omega
 ·show ts.length-((k+1:Nat):Int).toNat<ts.length-(k:Int).toNat
  omega
end
structure I2 where
 a:QV
 b:QV
instance:Enc I2:=⟨⟨fun x=>[.bool x.a.s,.slice x.a.A x.a.n x.a.c,.bool x.a.s2,.slice x.a.A2 x.a.n2 x.a.c2,.bool x.b.s,.slice x.b.A x.b.n x.b.c,.bool x.b.s2,.slice x.b.A2 x.b.n2 x.b.c2],8,fun _=>rfl,fun x v hv=>by simp at hv;rcases hv with rfl|rfl|rfl|rfl|rfl|rfl|rfl|rfl<;>rfl⟩⟩
structure RT where
 w:QV
 B:Option aI
 n:Nat
 c:Nat
instance:Enc RT:=⟨⟨fun x=>[.bool x.w.s,.slice x.w.A x.w.n x.w.c,.bool x.w.s2,.slice x.w.A2 x.w.n2 x.w.c2,.slice x.B x.n x.c],5,fun _=>rfl,fun x v hv=>by simp at hv;rcases hv with rfl|rfl|rfl|rfl|rfl<;>rfl⟩⟩
abbrev I2r:aF->I2->Rat × Rat->Prop:=fun h w x=>NQ h w.a x.1/\NQ h w.b x.2
abbrev RTr:aF->RT->H8->Prop:=fun h w t=>NQ h w.w (rv t.1)/\w.n=t.2.length/\SlI .i64 h w.B t.2
def bxQ(l:List Ivl)(i:Nat):Rat × Rat:=(rv (l.getD i ([],[])).1,rv (l.getD i ([],[])).2)
section
variable {h:aF} {K:VP} {A B:Option aI} {ts:List H8} {vars:Int} {c:Nat}
end
section
variable {h:aF} {lo hi x:List UInt8}
end
def Br.t{b:Bool}{A B:Prop}(hb:b=true)(x:A):Br b A B:=by subst hb;exact x
def Br.f{b:Bool}{A B:Prop}(hb:b=false)(x:B):Br b A B:=by subst hb;exact x
def A95{m:Nat}{p q r s:Rat}(hp:Sz m p)(hq:Sz m q)(hr:Sz m r)(hs:Sz m s):Sz (m+m) (Cr p q r s)/\Sz (m+m) (Cs p q r s):=by
 have a:∀ t∈[p*s,q*r,q*s],Sz (m+m) t:=by
  intro t b
  simp only [cR,cK,or_false] at b
  rcases b with rfl|rfl|rfl
  ·exact hp.mul hs
  ·exact hq.mul hr
  ·exact hq.mul hs
 exact ⟨(hp.mul hr).mnL a,(hp.mul hr).mxL a⟩
section
variable {h:aF} {K:VP} {m:Nat} {lo hi x lo2 hi2:List UInt8}
end
def tmE(es:List Int)(f:Nat->Rat × Rat)(c:Rat):Nat->Rat × Rat
 | 0=>(c,c)
 | k+1=>(Cr (tmE es f c k).1 (tmE es f c k).2 (N8 (f k).1 (f k).2 (es.getD k 0).toNat) (N9 (f k).1 (f k).2 (es.getD k 0).toNat),Cs (tmE es f c k).1 (tmE es f c k).2 (N8 (f k).1 (f k).2 (es.getD k 0).toNat) (N9 (f k).1 (f k).2 (es.getD k 0).toNat))
def evE(ts:List H8)(f:Nat->Rat × Rat)(n:Nat):Nat->Rat × Rat
 | 0=>(0,0)
 | i+1=>((evE ts f n i).1+(tmE (tm ts i).2 f (rv (tm ts i).1) n).1,(evE ts f n i).2+(tmE (tm ts i).2 f (rv (tm ts i).1) n).2)
def A70{a b c d:Rat}:Cr a b c d<=Cs a b c d:=aL (Yb [a*d,b*c,b*d] (a*c)).1 (Yh [a*d,b*c,b*d] (a*c)).1
def Tf(es:List Int)(f:Nat->Rat × Rat)(c:Rat):∀ k,(tmE es f c k).1<=(tmE es f c k).2
 | 0=>aH
 | _+1=>A70
def Tq{a b:Rat}(h:a<=b):Cr a b 1 1=a/\Cs a b 1 1=b:=by
 unfold Cr Cs
 simp only [Rat.mul_one,Mo,Ml,A4c,A49]
 constructor
 ·unfold mn;grind
 ·unfold mx;grind
def Ov(a b:Rat):N8 a b 0=1/\N9 a b 0=1:=by
 unfold N8 N9
 rw [iN o,iN o,cV,cV]
 exact ⟨by unfold mn;split<;>rfl,by unfold mx;split<;>rfl⟩
def A0c{es:List Int}{f:Nat->Rat × Rat}{c:Rat}{k:Nat}(h:(es.getD k 0).toNat=0):tmE es f c (k+1)=tmE es f c k:=by
 show (Cr _ _ _ _,Cs _ _ _ _)=_
 rw [h,(Ov _ _).1,(Ov _ _).2,(Tq (Tf es f c k)).1,(Tq (Tf es f c k)).2]
def A91{m k:Nat}{a b:Rat}(hm:1<=m)(ha:Sz m a)(hb:Sz m b):Sz (m*k+1) (N8 a b k)/\Sz (m*k+1) (N9 a b k):=by
 have g:=ha.pow hm k
 have i:=hb.pow hm k
 have d:Sz (m*k+1) 0:=Sz.zero o
 unfold N8 N9
 constructor
 ·split
  ·exact Sz.mnL d fun q c=>by simp at c;rcases c with rfl|rfl<;>assumption
  ·rcases Sa (a^k) (b^k) with e|e<;>rw [e]<;>assumption
 ·split
  ·exact Sz.mxL d fun q c=>by simp at c;rcases c with rfl|rfl<;>assumption
  ·rcases Rx (a^k) (b^k) with e|e<;>rw [e]<;>assumption
structure SmE (ts:List H8) (f:Nat->Rat × Rat) (n:Nat):Prop where
 len:ts.length<=5
 n6:n<=6
 coef:∀ i,i<ts.length->Sz 32 (rv (tm ts i).1)
 elen:∀ i,i<ts.length->(tm ts i).2.length=n
 exps:∀ i,i<ts.length->∀ k,k<n->0<=(tm ts i).2.getD k 0/\(tm ts i).2.getD k 0<=6
 box:∀ k,k<n->Sz 80 (f k).1/\Sz 80 (f k).2
def SmE.pow{ts:List H8}{f:Nat->Rat × Rat}{n:Nat}(s:SmE ts f n){e k:Nat}(hk:k<n)(he:e<=6):Sz 481 (N8 (f k).1 (f k).2 e)/\Sz 481 (N9 (f k).1 (f k).2 e):=by
 obtain ⟨d,a⟩:=s.box k hk
 obtain ⟨b,c⟩:=A91 (k:=e) o d a
 exact ⟨b.mono o,c.mono o⟩
def SmE.tm{ts:List H8}{f:Nat->Rat × Rat}{n:Nat}(s:SmE ts f n){i:Nat}(hi:i<ts.length):∀ k,k<=n->Sz (481*2^k) (tmE (Go.Proofs.YtdphgbjaijlckaaGreatDoor.tm ts i).2 f (rv (Go.Proofs.YtdphgbjaijlckaaGreatDoor.tm ts i).1) k).1/\Sz (481*2^k) (tmE (Go.Proofs.YtdphgbjaijlckaaGreatDoor.tm ts i).2 f (rv (Go.Proofs.YtdphgbjaijlckaaGreatDoor.tm ts i).1) k).2:=by
 intro k
 induction k with
 | zero=>exact fun _=>⟨(s.coef i hi).mono o,(s.coef i hi).mono o⟩
 | succ k ih=>
  intro j
  obtain ⟨g,c⟩:=ih o
  have a:481<=481*2^k:=cT 481 (Nat.pow_pos dc)
  have l:=s.exps i hi k o
  obtain ⟨b,d⟩:=s.pow (e:=((Go.Proofs.YtdphgbjaijlckaaGreatDoor.tm ts i).2.getD k 0).toNat) (k:=k) o o
  have e:481*2^(k+1)=481*2^k+481*2^k:=by rw [Nat.pow_succ];omega
  rw [e]
  exact A95 g c (b.mono a) (d.mono a)
def Rs{k:Nat}(h:k<=6):481*2^k<=30784:=cF (aS 481 (Nat.pow_le_pow_right dc h)) dc
def SmE.ev{ts:List H8}{f:Nat->Rat × Rat}{n:Nat}(s:SmE ts f n):∀ i,i<=ts.length->Sz (1+i*30785) (evE ts f n i).1/\Sz (1+i*30785) (evE ts f n i).2:=by
 intro i
 induction i with
 | zero=>exact fun _=>⟨Sz.zero o,Sz.zero o⟩
 | succ i ih=>
  intro g
  obtain ⟨d,c⟩:=ih o
  obtain ⟨b,a⟩:=s.tm (i:=i) o n (aU n)
  have e:=Rs s.n6
  exact ⟨(d.add b).mono o,(c.add a).mono o⟩
section
variable {h:aF} {K:VP} {A B:Option aI} {ts:List H8} {c bc n:Nat} {f:Nat->Rat × Rat}
end
section
set_option maxRecDepth 100000
variable {h:aF} {K:VP}
def Gi(P:aW)(b9:OA)(q:Nat)(r:OA)(s:Nat)(c0:LP)(t:LN)(d:Int)(u:Bool)(v:OA)(w x:Nat)(c1:Bool)(c2:OA)(c3 c4:Nat)(c5:Bool)(c6:OA)(c7 c8:Nat)(c9:Int)(d0:OA)(d1:Nat)(d2:aF)(d3:aF):Prop:=
 ∃ (f:LP) (y:LN),f [I 0] d3/\
 ∀ a b,f [I a] b->Bd (a<(q:Int)) (∃ c,Ax b9 c a q <| ∃ (z:Int) (A:Int) (B:Int) (C:Int) (D:Int) (E:Int) (F:Bool) (G:OA) (H L:Nat) (M:Bool) (N:OA) (O Q:Nat),b.cell? (aC (c.add (a.toNat*10)) 0)=some (I z)/\b.cell? (aC (c.add (a.toNat*10)) 1)=some (I A)/\b.cell? (aC (c.add (a.toNat*10)) 2)=some (I B)/\b.cell? (aC (c.add (a.toNat*10)) 3)=some (I C)/\b.cell? (aC (c.add (a.toNat*10)) 4)=some (I D)/\b.cell? (aC (c.add (a.toNat*10)) 5)=some (I E)/\b.cell? (aC (c.add (a.toNat*10)) 6)=some (.bool F)/\b.cell? (aC (c.add (a.toNat*10)) 7)=some (.slice G H L)/\b.cell? (aC (c.add (a.toNat*10)) 8)=some (.bool M)/\b.cell? (aC (c.add (a.toNat*10)) 9)=some (.slice N O Q)/\wpH P (cM 203 true (T0)) (fun d4 d5=>∃ (g:aI),d4=Pt g/\wpH P (aT 203 (Pt g) (.agg #[I z,I A,I B,I C,I D,I E,.bool F,Sl G H L,.bool M,Sl N O Q])) (fun _ e=>∃ T,Ax r T a s <| ∃ V W X a0,Lz e (T.add (a.toNat*2)) V W X a0<|(0<=d/\d<(6:Int))/\∃ l,e.cell? (aC (g.add 0) (d.toNat*1))=some (I l)/\∃ a1,Ax d0 a1 l d1 <| ∃ a2 a3 a4 a5,Lz e (a1.add (l.toNat*2)) a2 a3 a4 a5<|aJ P 137 #[Zv V W X a0,Zv a2 a3 a4 a5] e (fun d6 R=>∃ a6 a7 a8 a9,d6=Zv a6 a7 a8 a9/\e.le R/\∃ b0,Ax r b0 a s<|wpH P (aT 91 (Pt (b0.add (a.toNat*2))) (Zv a6 a7 a8 a9)) (fun _ S=>f [I (B7 (a+1))] S/\y [I (B7 (a+1))] S<y [I a] b) R)) d5) b)
 (aJ P 124 #[Qv c1 c2 c3 c4 c5 c6 c7 c8] b (fun d7 i=>∃ b1 b2 b3 b4,d7=Zv b1 b2 b3 b4/\b.le i/\aJ P 126 #[Zv b1 b2 b3 b4,U (C4 c9)] i (fun d8 j=>∃ b5 b6 b7 b8,d8=Zv b5 b6 b7 b8/\i.le j/\aJ P 137 #[Zv u v w x,Zv b5 b6 b7 b8] j (fun d9 k=>∃ m n o p,d9=Zv m n o p/\j.le k/\c0 [I (B7 (d+1)),.bool m,.slice n o p] k/\t [I (B7 (d+1)),.bool m,.slice n o p] k<t [I d,.bool u,.slice v w x] d2))))
def Gj(P:aW)(W:OA)(X:Nat)(a0:OA)(a1:Nat)(a2:LP)(a3:LN)(a4:Int)(a5:Bool)(a6:OA)(a7 a8:Nat)(c:Bool)(d:OA)(e f:Nat)(g:Bool)(i:OA)(j k:Nat)(r:Int)(s:OA)(l:Nat)(a9:aF)(b0:aF):Prop:=
 ∃ (m:LP) (t:LN),m [I 0] a9/\
 ∀ a b,m [I a] b->Bd (a<(l:Int)) (aJ P 162 #[Qv c d e f g i j k] b (fun b1 n=>∃ w x y z,b1=Zv w x y z/\b.le n/\aJ P 126 #[Zv w x y z,U (C4 a)] n (fun b2 o=>∃ A B C D,b2=Zv A B C D/\n.le o/\aJ P 124 #[Qv c d e f g i j k] o (fun b3 p=>∃ E F G H,b3=Zv E F G H/\o.le p/\aJ P 126 #[Zv E F G H,U (C4 (B7 (r-a)))] p (fun b4 q=>∃ L M N O,b4=Zv L M N O/\p.le q/\aJ P 137 #[Zv A B C D,Zv L M N O] q (fun b5 u=>∃ Q R S T,b5=Zv Q R S T/\q.le u/\∃ V,Ax s V a l<|wpH P (aT 91 (Pt (V.add (a.toNat*2))) (Zv Q R S T)) (fun _ v=>m [I (B7 (a+1))] v/\t [I (B7 (a+1))] v<t [I a] b) u))))))
 (Gi P W X a0 a1 a2 a3 a4 a5 a6 a7 a8 c d e f g i j k r s l b0 b)
def Gk(P:aW)(l:OA)(g:Nat)(E:OA)(F:Nat)(G:LP)(H:LN)(f:Int)(L:Bool)(M:OA)(N O:Nat)(Q:Bool)(R:OA)(S T:Nat)(V:Bool)(W:OA)(X a0:Nat)(m:aF):Prop:=
 ∃ (i:LP) (n:LN),i [I 0,I 0] m/\
 ∀ d a b,i [I d,I a] b->Bd (a<(g:Int)) (∃ c,Ax l c a g <| ∃ (o:Int) (p:Int) (q:Int) (r:Int) (s:Int) (t:Int) (u:Bool) (v:OA) (w x:Nat) (y:Bool) (z:OA) (A B:Nat),b.cell? (aC (c.add (a.toNat*10)) 0)=some (I o)/\b.cell? (aC (c.add (a.toNat*10)) 1)=some (I p)/\b.cell? (aC (c.add (a.toNat*10)) 2)=some (I q)/\b.cell? (aC (c.add (a.toNat*10)) 3)=some (I r)/\b.cell? (aC (c.add (a.toNat*10)) 4)=some (I s)/\b.cell? (aC (c.add (a.toNat*10)) 5)=some (I t)/\b.cell? (aC (c.add (a.toNat*10)) 6)=some (.bool u)/\b.cell? (aC (c.add (a.toNat*10)) 7)=some (.slice v w x)/\b.cell? (aC (c.add (a.toNat*10)) 8)=some (.bool y)/\b.cell? (aC (c.add (a.toNat*10)) 9)=some (.slice z A B)/\wpH P (cM 203 true (T0)) (fun a1 a2=>∃ (j:aI),a1=Pt j/\wpH P (aT 203 (Pt j) (.agg #[I o,I p,I q,I r,I s,I t,.bool u,Sl v w x,.bool y,Sl z A B])) (fun _ k=>(0<=f/\f<(6:Int))/\∃ e,k.cell? (aC (j.add 0) (f.toNat*1))=some (I e)/\i [I (if e>d then e else d),I (B7 (a+1))] k/\n [I (if e>d then e else d),I (B7 (a+1))] k<n [I d,I a] b) a2) b)
 (wpH P (Instr.makeSlice 189 (I (B7 (d+1))) (I (B7 (d+1)))) (fun a3 a4=>∃ C D a5,a3=Sl C D a5/\Gj P l g E F G H f L M N O Q R S T V W X a0 d C D a4 m) b)
def Gh(P:aW)(K:VP)(B:OA)(e:Nat)(C:Bool)(D:OA)(E F:Nat)(f:aI)(G:aF):Prop:=
 ∃ (c:LP) (g:LN),c [I 0] G/\
 ∀ a b,c [I a] b->Bd (a<(e:Int)) (∃ k,Ax B k a e <| ∃ l m n o,Lz b (k.add (a.toNat*2)) l m n o<|aJ P 163 #[Pt f,Zv l m n o] b (fun H i=>H=T0/\c [I (B7 (a+1))] i/\g [I (B7 (a+1))] i<g [I a] b))
 (aJ P 164 #[Pt f] b (fun L d=>∃ p q r s,L=Zv p q r s/\b.le d/\aJ P 151 #[Zv p q r s,Zv C D E F] d (fun M j=>∃ t u v w x y z A,M=Qv t u v w x y z A/\d.le j/\K (Qv t u v w x y z A) j)))
def Jp(P:aW)(v:OA)(w:Nat)(x:OA)(i:Nat)(K:VP)(y:Bool)(z:OA)(A B:Nat)(j:OA)(k:Nat)(C:aF):Prop:=
 ∃ (c:LP) (D:LN),c [I 0,.bool y,.slice z A B] C/\
 ∀ a d e f g b,c [I a,.bool d,.slice e f g] b->Bd (a<(i:Int)) (∃ m,Ax x m a i <| ∃ n o p q r s t u,Lq b (m.add (a.toNat*4)) n o p q r s t u<|Gk P v w j k c D a d e f g n o p q r s t u b)
 (wpH P (cM 205 true (T0)) (fun E F=>∃ (l:aI),E=Pt l/\Gh P K j k d e f g l F) b)
def Zy(P:aW)(e:OA)(d C:Nat)(D:OA)(E X:Nat)(h:aF)(K:VP):Prop:=
 aJ P 160 #[Sl e d C] h (fun O Q=>∃ g i j k,O=Zv g i j k/\wpH P (Instr.makeSlice 189 (I (d:Int)) (I (d:Int))) (fun R S=>∃ l m W,R=Sl l m W/\∃ (f:LP) (n:LN),f [I 0] S/\
 ∀ a b,f [I a] b->Bd (a<(d:Int)) (∃ c,Ax e c a d <| ∃ (F:Int) (G:Int) (H:Int) (L:Int) (M:Int) (N:Int) (o:Bool) (p:OA) (q r:Nat) (s:Bool) (t:OA) (u v:Nat),b.cell? (aC (c.add (a.toNat*10)) 0)=some (I F)/\b.cell? (aC (c.add (a.toNat*10)) 1)=some (I G)/\b.cell? (aC (c.add (a.toNat*10)) 2)=some (I H)/\b.cell? (aC (c.add (a.toNat*10)) 3)=some (I L)/\b.cell? (aC (c.add (a.toNat*10)) 4)=some (I M)/\b.cell? (aC (c.add (a.toNat*10)) 5)=some (I N)/\b.cell? (aC (c.add (a.toNat*10)) 6)=some (.bool o)/\b.cell? (aC (c.add (a.toNat*10)) 7)=some (.slice p q r)/\b.cell? (aC (c.add (a.toNat*10)) 8)=some (.bool s)/\b.cell? (aC (c.add (a.toNat*10)) 9)=some (.slice t u v)/\aJ P 161 #[Qv o p q r s t u v,Zv g i j k] b (fun T V=>∃ x y z A,T=Zv x y z A/\∃ B,Ax l B a m<|wpH P (aT 91 (Pt (B.add (a.toNat*2))) (Zv x y z A)) (fun _ w=>f [I (B7 (a+1))] w/\n [I (B7 (a+1))] w<n [I a] b) V))
 (Jp P e d D E K g i j k l m b)) Q)
def Vs a b c d e f(hvc:Zy prog a b c d e f h K):aJ prog 95 #[Sl a b c,Sl d e f] h K:=
 fnq func95 ⟨[(4,⟨[28],[],[I 0],⟨([7,8]++Lrg 28 13),[8]⟩⟩),(9,⟨[43],[(5,2)],[I 0,.bool false,N0],⟨([9,10,11,13,14,15,16,17]++Lrg 43 74),[5,10]⟩⟩),(13,⟨[11,50],[],[I 0,I 0],⟨([11,13]++Lrg 50 11),[]⟩⟩),(19,⟨[66],[],[I 0],⟨([15]++Lrg 66 20),[]⟩⟩),(24,⟨[88],[],[I 0],⟨([16,17]++Lrg 88 21),[]⟩⟩),(32,⟨[119],[],[I 0],⟨[20,119,120,121,122,123,124,125],[20]⟩⟩)],[],[(21,([0,1,2,4,5,7,9,10,11,12,3,6,8,13,14,15,16],[])),(28,([0,1,3,4,2,5,6,7],[])),(36,([1,0,2,3],[]))],[],[]⟩ [4,5,8,10,20] [163] hvc
end
structure EV where
 x0:Int
 x1:Int
 x2:Int
 x3:Int
 x4:Int
 x5:Int
 w:QV
def EV.xs(e:EV):List Int:=[e.x0,e.x1,e.x2,e.x3,e.x4,e.x5]
def EV.v(e:EV):aX:=.agg #[I e.x0,I e.x1,I e.x2,I e.x3,I e.x4,I e.x5,.bool e.w.s,.slice e.w.A e.w.n e.w.c,.bool e.w.s2,.slice e.w.A2 e.w.n2 e.w.c2]
instance:Enc EV:=⟨⟨fun e=>A4h e.x0 e.x1 e.x2 e.x3 e.x4 e.x5 e.w,10,fun _=>rfl,fun e v hv=>by simp [A4h] at hv;rcases hv with rfl|rfl|rfl|rfl|rfl|rfl|rfl|rfl|rfl|rfl<;>rfl⟩⟩
abbrev ENr:aF->EV->H8->Prop:=fun h e t=>RQ h e.w (rv t.1)/\∀ j,j<6->e.xs.getD j 0=t.2.getD j 0
def In:Mon ENr:=fun _ _ _ _ a i=>⟨i.1.mono a,i.2⟩
def A7v:EV:=⟨0,0,0,0,0,0,⟨false,none,0,0,false,none,0,0⟩⟩
def Su{α:Type}[E:Enc α]{o:aF}{b:Nat}{e:aO}{c:Nat}{zx:α}:OwnSl (o.put b (.cells ((aQ c zx).flatMap enc).toArray e)) e (some ⟨b,0,none⟩) c ([]:List α):=
 ⟨Nat.zero_le _,.inr ⟨b,_,rfl,B8 _ _ _,by rw [L5,bD],by simp⟩⟩
def A16{xs:List Int}(hx:xs.length<=6)(j:Nat):(xs++[0,0,0,0,0,0].drop xs.length).getD j 0=xs.getD j 0:=by
 rw [aD,aD]
 by_cases h:j<xs.length
 ·rw [cP h]
 ·rw [bJ o,List.getElem?_drop]
  have a:xs[j]? = none:=bF o
  rw [a,show xs.length+(j-xs.length)=j from o]
  match j with
  | 0|1|2|3|4|5=>rfl
  | n+6=>rfl
section
variable {h:aF} {K:VP} {vars:Int}
def Jt{l:List UInt8}{xs:List Int}{A:Option aI}{c:Nat}(gl:Gtz h)(hl:l.length<=140737488351232)(se:SlI .i64 h A xs)(hv:vars<=6)(hK1:TermOk vars (l,xs)->∀ (e:EV) h',h.le h'->ENr h' e (l,xs)->K (.tuple #[e.v,.bool true]) h')(hK0:¬ TermOk vars (l,xs)->∀ h',h.le h'->K (.tuple #[A9f,.bool false]) h'):aJ prog 216 #[I vars,.agg #[.string (bs l),.slice A xs.length c]] h K:=by
 refine (fnk func216 [(5,[34],[(4,10)],[I 0,I 0,I 0,I 0,I 0,I 0,I 0,.bool false,.slice none 0 0,.bool false,.slice none 0 0])] (own:=[3,4,6])) ?_
 refine Cg gl hl (fun q e w u g i=>⟨_,_,_,_,_,_,_,_,_,rfl,?_⟩) (fun n w u g _=>⟨_,_,_,_,_,_,_,_,_,rfl,hK0 (fun o=>?_) u g⟩)
 ·refine T3 i ⟨_,rfl,B4 (fun G=>hK0 (fun o=>?_) u g) (fun G=>?_)⟩
  ·obtain ⟨W,D,n'⟩:=o.num
   exact n' (by rw [<- T2 (e.symm.trans D)];exact G)
  refine H9 (fun x=>hK0 (fun o=>x o.len) u g) (fun z=>?_)
  refine ⟨fun l h'=>∃ (k:Nat) (R:List aX),l=I k::R/\k<=xs.length/\(∀ j,j<k->0<=xs.getD j 0/\xs.getD j 0<=1048576)/\h'=u,fun l _=>xs.length-(iAt l 0).toNat,⟨0,_,rfl,oo,fun j hj=>oo,rfl⟩,?_⟩
  rintro C ad ah aj af ak ae ai S ab T ag X aa ac r ⟨k,R,B,hk,p,rfl⟩
  obtain rfl:C=(k:Int):=by simpa using (List.cons.inj B).1
  refine B4 (fun h2=>?_) (fun h2=>?_)
  ·have d:k<xs.length:=oo
   refine (se.mono g).load rfl oo oo ?_
   rw [aE]
   refine B4 (fun h3=>hK0 (fun o=>?_) _ g) (fun h3=>B4 (fun h4=>hK0 (fun o=>?_) _ g) (fun h4=>?_))
   ·have:=(o.exps _ (Ck d)).1;exact absurd this (by show ¬ 0<=xs.getD k 0;omega)
   ·have:=(o.exps _ (Ck d)).2;exact absurd this (by show ¬ xs.getD k 0<=1048576;omega)
   ·rw [B5 oo oo]
    refine ⟨⟨k+1,_,rfl,oo,fun j hj=>?_,rfl⟩,by simp only [iAt,aM];omega⟩
    by_cases y:j=k
    ·subst y;omega
    ·exact p j oo
  ·have d:k=xs.length:=oo
   subst d
   have ok:TermOk vars (l,xs):=⟨⟨q,e,G⟩,z,Kv p⟩
   refine Jm Y7.info fun b hb=>⟨_,rfl,?_⟩
   refine Fm (n:=4) Om (vs:=[.bool w.s,.slice w.A w.n w.c,.bool w.s2,.slice w.A2 w.n2 w.c2]) rfl rfl (by simp [Ju]) (off:=6) (arr:=[I (0:Int),I (0:Int),I (0:Int),I (0:Int),I (0:Int),I (0:Int),.bool false,.slice none 0 0,.bool false,.slice none 0 0]) dc ?_
   have win:Win .i64 (r.put b (.cells (G9 [I (0:Int),I (0:Int),I (0:Int),I (0:Int),I (0:Int),I (0:Int),.bool false,.slice none 0 0,.bool false,.slice none 0 0] 6 [.bool w.s,.slice w.A w.n w.c,.bool w.s2,.slice w.A2 w.n2 w.c2]).toArray 203)) r b 203 (Q3 (some (aC ⟨b,0,none⟩ 0)) 6 0 1) [] [0,0,0,0,0,0] [.bool w.s,.slice w.A w.n w.c,.bool w.s2,.slice w.A2 w.n2 w.c2]:=⟨hb,rfl,.inr rfl⟩
   have l2:r.le _:=win.le
   have m:xs.length<=6:=oo
   refine S6 A5d win rfl ((se.mono g).mono l2) rfl (by simpa using m) fun V O=>⟨_,rfl,?_⟩
   obtain ⟨L,M,N,E,H,F,Q⟩:=A74 (xs++[0,0,0,0,0,0].drop xs.length) (by simp;omega)
   have a:=O.eq
   rw [Q] at a
   refine ⟨L,M,N,E,H,F,_,_,_,_,_,_,_,_,H0 a rfl,H0 a rfl,H0 a rfl,H0 a rfl,H0 a rfl,H0 a rfl,H0 a rfl,H0 a rfl,H0 a rfl,H0 a rfl,?_⟩
   refine hK1 ok ⟨L,M,N,E,H,F,w⟩ V (A0 g O.le) ⟨?_,fun j hj=>?_⟩
   ·show RQ V w (rv l)
    rw [e,C1]
    exact i.mono O.le
   ·show [L,M,N,E,H,F].getD j 0=xs.getD j 0
    rw [<- Q,A16 m]
 ·obtain ⟨W,D,_⟩:=o.num
  exact n ⟨W,D⟩
variable {ts:List H8} {A:Option aI} {c:Nat}
def Ol(gl:Gtz h)(pa:cA h A ts)(hl:ts.length<=1000)(hc:∀ i,i<ts.length->(tm ts i).1.length<=140737488351232)(hK1:WfOk vars ts->∀ A' c' h',h.le h'->RowV ENr h' A' ts.length (tm ts)->K (.tuple #[.slice A' ts.length c',.bool true]) h')(hK0:¬ WfOk vars ts->∀ h',h.le h'->K (.tuple #[.slice none 0 0,.bool false]) h'):aJ prog 158 #[.agg #[I vars,.slice A ts.length c]] h K:=by
 refine (fnk func158 [(5,[4,24],[],[.slice none 0 0,I 0])] (own:=[1,6,7])) ?_
 refine B4 (fun h1=>hK0 (fun o=>by have:=o.lo;omega) h (B3 _)) (fun h1=>?_)
 refine B4 (fun h2=>hK0 (fun o=>by have:=o.hi;omega) h (B3 _)) (fun h2=>?_)
 refine T5 (α:=EV) Y7 (zx:=A7v) rfl oo oo oo oo fun b hb=>⟨_,_,_,rfl,?_⟩
 rw [aE]
 refine ⟨fun l hp=>∃ (k:Nat) (g o:aF) (p:List EV) (A':Option aI) (c':Nat),k<=ts.length/\l=[.slice A' k c',I (k:Int)]/\h.le g/\Sep hp g o/\OwnSl o 203 A' c' p/\p.length=k/\Row ENr g p k (tm ts)/\∀ j,j<k->A4y vars ts j,fun l _=>ts.length-(iAt l 1).toNat,
  ⟨0,h,_,[],_,_,oo,rfl,B3 _,Cm hb,Su,rfl,Row.nil,fun j hj=>oo⟩,?_⟩
 rintro X d tc z hp ⟨k,g,o,p,A',c',hk,eL,u,s,ow,m,rr,q⟩
 obtain ⟨⟨rfl,rfl,rfl⟩,rfl⟩:=sI2 eL
 have S:=A0 u s.le
 refine B4 (fun O=>?_) (fun O=>?_)
 ·have n:d<ts.length:=oo
  obtain ⟨a,B,cc,e1,e2,e3,e4⟩:=pa d n
  refine ⟨a,e1,oo,O,_,_,_,_,by rw [aE];exact C2 S e2,by rw [aE];exact C2 S e3,?_⟩
  refine s.call (Jt (gl.mono u) (hc d n) (e4.mono u) oo (fun F e g2 D en C E=>⟨_,_,_,_,_,_,_,_,_,_,_,_,_,_,true,rfl,?_⟩) (fun T g2 D C E=>⟨_,_,_,_,_,_,_,_,_,_,_,_,_,_,false,rfl,hK0 (fun o=>T (o.all d n).1) _ (A0 u (A0 D E.le))⟩))
  have r:=A0 u (A0 D E.le)
  have next:A4y vars ts d->wpH prog (bM 129 1 #[(0,e.v)]) (fun v1 Q=>∃ (t57A:Option aI) (t57n:Nat) (t57c:Nat),v1= .slice t57A t57n t57c/\wpH prog (bX #[129,129] 129 #[.slice X d tc,.slice t57A t57n t57c]) (fun v2 H=>∃ (t58A:Option aI) (t58n:Nat) (t58c:Nat),v2= .slice t58A t58n t58c/\(∃ (k:Nat) (g o:aF) (p:List EV) (A':Option aI) (c':Nat),k<=ts.length/\[bK t58A t58n t58c,I (B7 ((d:Int)+1))]=[.slice A' k c',I (k:Int)]/\h.le g/\Sep H g o/\OwnSl o 203 A' c' p/\p.length=k/\Row ENr g p k (tm ts)/\∀ j,j<k->A4y vars ts j)/\ts.length-(iAt [bK t58A t58n t58c,I (B7 ((d:Int)+1))] 1).toNat<ts.length-(iAt [bK X d tc,I (d:Int)] 1).toNat) Q) C:=by
   intro M
   refine Sv (ty:=129) Y7 E ow m.symm (y:=e) rfl dc oo oo ?_
   intro A3 c3 O g3 o3 N s3 L _
   rw [m,B5 oo oo]
   refine ⟨⟨d+1,g3,o3,_,A3,c3,oo,rfl,A0 u (A0 D N),s3,L,by rw [aP,m];rfl,?_,fun j hj=>?_⟩,by simp only [iAt,aR,aM];omega⟩
   ·have rA:Row ENr g3 p p.length (tm ts):=by rw [m];exact rr.mono In (A0 D N)
    have rB:=rA.push (w:=e) (by rw [m];exact In _ _ _ _ N en)
    rw [aP,m] at rB
    exact rB
   ·by_cases G:j=d
    ·subst G;exact M
    ·exact q j oo
  refine B4 (fun h4=>?_) (fun h4=>next ⟨F,fun h0=>oo⟩)
  have ek:(B7 ((d:Int)-1)).toNat=d-1:=by rw [B5 oo oo];omega
  obtain ⟨a',B',ab,W,aa,V,R⟩:=pa (d-1) oo
  have x:=(q (d-1) oo).1
  refine ⟨a',W,by rw [B5 oo oo];omega,by rw [B5 oo oo];omega,_,_,_,by rw [ek];exact C2 r V,?_⟩
  refine Il (by have e5:=x.len;have e6:((tm ts d).2.length:Int)=vars:=F.len;omega) (x.exb oo) (F.exb oo) (R.mono r) (e4.mono r) ⟨_,rfl,B3 _,?_⟩
  refine B4 (fun h5=>hK0 (fun o=>?_) _ r) (fun h5=>next ⟨F,fun _=>oo⟩)
  have:=(o.all d n).2 oo
  omega
 ·have n:d=ts.length:=oo
  subst n
  exact hK1 ⟨oo,oo,q⟩ _ _ _ S ⟨p,ow.slF s.ole,m,rr.mono In s.le⟩
def Oz(gl:Gtz h)(pa:cA h A ts)(hl:ts.length<=1000)(hc:∀ i,i<ts.length->(tm ts i).1.length<=140737488351232)(hK1:Ca vars ts->∀ A' c' h',h.le h'->RowV ENr h' A' ts.length (tm ts)->K (.tuple #[.slice A' ts.length c',.bool true]) h')(hK0:¬ Ca vars ts->∀ h',h.le h'->K (.tuple #[.slice none 0 0,.bool false]) h'):aJ prog 93 #[.agg #[I vars,.slice A ts.length c]] h K:=by
 refine (fnk func93 (own:=[1])) ?_
 refine B4 (fun q=>oo) (fun _=>?_)
 refine Ol gl pa hl hc (fun j A' c' h' b d=>⟨_,_,_,_,rfl,?_⟩) (fun g h' b=>⟨_,_,_,_,rfl,hK0 (fun o=>g o.1) h' b⟩)
 refine B4 (fun m=>?_) (fun m=>hK1 ⟨j,fun r=>oo⟩ _ _ _ b d)
 obtain ⟨a,B,p,k,s,l,n⟩:=pa 0 oo
 refine ⟨a,k,oo,oo,_,_,_,C2 b l,?_⟩
 refine Gw (n.mono b) ⟨_,rfl,Br.not (Br.of (fun e=>hK1 ⟨j,fun _=>e⟩ _ _ _ b d) (fun e=>hK0 (fun o=>?_) _ b))⟩
 have:=o.2 oo
 rw [this] at e;cases e
end
section
variable {h:aF} {K:VP} {A B:Option aI} {n c n' c' m:Nat} {s s':Bool} {x y:Int}
def A3e:RQ h ⟨false,none,0,0,false,none,0,0⟩ 0:=⟨ZI.zero,ZI.zero⟩
def A0t{z:Int}(i:ZI h s A n c z):RQ h ⟨s,A,n,c,false,none,0,0⟩ (z:Rat):=⟨by assumption,by simpa using ZI.zero⟩
def Nc(gl:Gtz h)(ix:ZI h s A n c x)(iy:ZI h s' B n' c' y)(hx:ZB m x)(hy:ZB m y)(hm:m<=6400000000)(hK:∀ w h',h.le h'->RQ h' w (bO x y)->K w.v h'):aJ prog 151 #[.agg #[.bool s,.slice A n c],.agg #[.bool s',.slice B n' c']] h K:=by
 refine (fnk func151 (cs:=[(2,[11],[],[.bool false]),(5,[],[(2,2),(3,2)],[.bool false,.slice none 0 0,.bool false,.slice none 0 0])]) (os:=[(4,[0,2,1,3,4,5]),(9,[0,1,3,4,2,5,6,7])]) (own:=[2,3,4,5])) ?_
 refine ⟨fun L S=>S=h/\((L=[.bool true]/\bO x y=0)\/(L=[.bool false]/\y≠0)),?_,?_⟩
 ·refine H2 iy ⟨_,rfl,B4 (fun e=>⟨rfl,.inl ⟨rfl,by simp_all⟩⟩) (fun e=>H2 ix ⟨_,rfl,rfl,?_⟩)⟩
  by_cases R:x=0
  ·simp_all
  grind
 rintro t S ⟨rfl,hL⟩
 refine Br.of (fun e=>?_) (fun e=>?_)
 ·rcases hL with ⟨_,h0⟩|⟨h1,_⟩
  ·rw [h0] at hK
   exact hK _ _ (B3 _) A3e
  grind
 refine ⟨fun l C=>∃ s A n c s' B n' c' d b,l=[.bool s,.slice A n c,.bool s',.slice B n' c']/\S.le C/\ZI C s A n c d/\ZI C s' B n' c' b/\0<b/\bO d b=bO x y/\ZB m d/\ZB m b,?_,?_⟩
 ·refine U8 iy ⟨_,rfl,B4 (fun e=>?_) (fun e=>?_)⟩
  ·have aa:y<0:=gz0
   refine P8 ix ?_
   intro X u
   refine ⟨_,_,_,_,rfl,B3 _,?_⟩
   refine P8 iy ?_
   intro W p
   exact ⟨_,_,_,_,rfl,B3 _,_,_,_,_,_,_,_,_,-x,-y,rfl,B3 _,u,p,o,Rat.neg_divInt_neg x y,hx.neg,hy.neg⟩
  ·have g:0<y:=gz0
   exact ⟨_,_,_,_,_,_,_,_,x,y,rfl,B3 _,ix,iy,g,rfl,hx,hy⟩
 rintro X A1 n1 c1 W A2 n2 c2 ac ⟨F,A1',V,M,O,A2',H,Q,d,b,hl,j,u,p,g,C,z,k⟩
 obtain ⟨rfl,⟨rfl,rfl,rfl⟩,rfl,rfl,rfl,rfl⟩:X=F/\(A1=A1'/\n1=V/\c1=M)/\W=O/\A2=A2'/\n2=H/\c2=Q:=gz0
 rw [<- C] at hK
 refine J2 p ⟨_,rfl,B4 (fun e1=>?_) (fun e1=>?_)⟩
 ·rw [e1,Vh] at hK
  exact hK _ _ j (A0t u)
 refine V3 (gl.mono j) u p z k o ?_
 intro A3 n3 c3 h3 r T
 refine ⟨_,_,_,_,rfl,?_⟩
 generalize hqq:bO d b=q at *
 have a:q.num=d/(Int.gcd d b:Int):=by
  rw [<- hqq,Rat.num_divInt,Int.sign_eq_one_of_pos g,Int.one_mul,Int.gcd_comm]
 have i:(q.den:Int)=b/(Int.gcd d b:Int):=by
  rw [<- hqq,Rat.den_divInt,iN o,Int.gcd_comm,Int.natCast_ediv,Int.natAbs_of_nonneg o]
 have ab:0<Int.gcd d b:=Int.gcd_pos_of_ne_zero_right d o
 have D:ZB m (Int.gcd d b:Int):=ZB.gcd o k
 refine J2 T ⟨_,rfl,Br.not (B4 (fun R=>?_) (fun R=>?_))⟩
 ·rw [R] at a i
  simp at a i
  refine J6 (q:=q) (u.mono r) (p.mono r) a i ?_
  intro w G
  exact ⟨_,_,_,_,_,_,_,_,rfl,hK _ _ (A0 j r) G⟩
 ·refine N3 (u.mono r) T z D hm o ?_
  intro s4 A4 n4 c4 h4 E i4
  refine ⟨_,_,_,_,rfl,E,?_⟩
  refine N3 ((p.mono r).mono E) (T.mono E) k D hm o ?_
  intro s5 A5 n5 c5 h5 N i5
  refine ⟨_,_,_,_,rfl,N,?_⟩
  refine J6 (q:=q) (i4.mono N) i5 (by rw [a,Int.tdiv_eq_ediv_of_dvd (Int.gcd_dvd_left d b)]) gz0 ?_
  intro w G
  exact ⟨_,_,_,_,_,_,_,_,rfl,hK _ _ (A0 j (A0 r (A0 E N))) G⟩
end
def tmV(es:List Int)(x:Nat->Rat)(c:Rat):Nat->Rat
 | 0=>c
 | k+1=>tmV es x c k*x k^(es.getD k 0).toNat
def evV(ts:List H8)(x:Nat->Rat)(n:Nat):Nat->Rat
 | 0=>0
 | i+1=>evV ts x n i+tmV (tm ts i).2 x (rv (tm ts i).1) n
def pwZ(q:Rat)(G e:Nat):Int:=q.num^e*(q.den:Int)^(G-e)
def Xk(q:Rat)(f:Nat):∀ e:Nat,((q.num^e*(q.den:Int)^f:Int):Rat)=q^e*(((q.den:Int)^(e+f):Int):Rat)
 | 0=>by rw [Int.pow_zero,Int.one_mul,cV,Rat.one_mul,cC]
 | e+1=>by
  have ih:=Xk q f e
  have a:(q.num:Rat)=q*((q.den:Int):Rat):=(Ya q).symm
  rw [cI,Int.mul_right_comm,aZ,ih,a,Rat.pow_succ,show e+1+f=(e+f)+1 from o,cI,aZ]
  grind
def A6u(q:Rat){G e:Nat}(he:e<=G):(pwZ q G e:Rat)=q^e*(((q.den:Int)^G:Int):Rat):=by
 have:=Xk q (G-e) e
 rw [show e+(G-e)=G from o] at this
 exact this
def A2i{q:Rat}{p G e D:Nat}(hq:Sz p q)(hp:1<=p)(he:e<=G)(hG:G<=D):ZB (p*D+2) (pwZ q G e):=by
 have a:=(hq.num.pow hp e).mul (hq.den.pow hp (G-e))
 refine a.mono ?_
 have b:p*e+p*(G-e)=p*G:=by rw [<- Nat.mul_add,show e+(G-e)=G from o]
 have c:p*G<=p*D:=aS _ hG
 omega
def suZ(f:Nat->Int):Nat->Int
 | 0=>0
 | k+1=>suZ f k+f k
def suA(f:Nat->Int):Nat->Int
 | 0=>0
 | k+1=>suA f k+((f k).natAbs:Int)
def A5g{f:Nat->Int}{T n:Nat}(hf:∀ i,i<n->ZB T (f i)):∀ k,k<=n->suA f k<=k*2^(2*T):=by
 intro k
 induction k with
 | zero=>intro _;exact Int.le_of_eq (by simp [suA])
 | succ k ih=>
  intro a
  have d:=ih o
  have b:((f k).natAbs:Int)<=2^(2*T):=by
   have g:(f k).natAbs<2^T:=hf k o
   have c:2^T<=2^(2*T):=Nat.pow_le_pow_right dc o
   have e:(2:Int)^(2*T)=((2^(2*T):Nat):Int):=by simp
   rw [e];omega
  show suA f k+((f k).natAbs:Int)<=((k+1:Nat):Int)*2^(2*T)
  rw [Int.natCast_add,Int.add_mul]
  have:((1:Nat):Int)*2^(2*T)=2^(2*T):=by simp
  omega
def A5e{f:Nat->Int}{T n:Nat}(hn:n<=1000)(hf:∀ i,i<n->ZB T (f i)):ZB (T+10) (suZ f n):=by
 have:∀ k,k<=n->(suZ f k).natAbs<=k*2^T:=by
  intro k
  induction k with
  | zero=>intro _;exact Nat.zero_le _
  | succ k ih=>
   intro c
   have b:=ih o
   have a:(f k).natAbs<2^T:=hf k o
   show (suZ f k+f k).natAbs<=(k+1)*2^T
   rw [Nat.add_mul,Nat.one_mul]
   omega
 have b:=this n (aU _)
 have d:n*2^T<=1000*2^T:=bG _ hn
 have a:2^(T+10)=2^T*1024:=by rw [Nat.pow_add]
 have e:0<2^T:=Nat.pow_pos dc
 unfold ZB
 rw [a];omega
def A5f{ts:List H8}{x:Nat->Rat}{v n:Nat}{f:Nat->Int}{d:Int}(h:∀ i,i<n->(f i:Rat)=tmV (tm ts i).2 x (rv (tm ts i).1) v*(d:Rat)):∀ k,k<=n->(suZ f k:Rat)=evV ts x v k*(d:Rat):=by
 intro k
 induction k with
 | zero=>intro _;show ((0:Int):Rat)=0*_;rw [Rat.zero_mul];rfl
 | succ k ih=>
  intro a
  show ((suZ f k+f k:Int):Rat)=(evV ts x v k+tmV (tm ts k).2 x (rv (tm ts k).1) v)*(d:Rat)
  rw [Rat.intCast_add,ih o,h k o]
  grind
section
variable {h g o:aF} {K:VP} {A B:Option aI} {ts:List H8} {n c v cc:Nat} {x:Nat->Rat}
def SumS.put{b:Nat}{e:aO}{N:Nat}{M z:Int}(S:SumS h g b e N M z){b2:Nat}(hb2:h b2=none)(X:Obj):SumS (h.put b2 X) (g.put b2 X) b e N M z:=by
 obtain ⟨PA,NA,w,x,r,B,q,k,d,p,s,i,l,rfl,E,y,m,j,A,D,n,C⟩:=S
 have a:b2≠b:=by
  rintro rfl
  rw [B8] at hb2;cases hb2
 rw [B6 _ _ a] at hb2
 have c:d b2=none:=by
  cases e1:d b2 with
  | none=>rfl
  | some u=>rw [i.le _ _ e1] at hb2;cases hb2
 exact ⟨PA,NA,w,x,r,B,q,k,d.put b2 X,p.put b2 X,Priv.put s c X,Priv.put i hb2 X,by rw [B6 _ _ a.symm];exact l,Heap.put_comm _ _ _ a.symm,E,y,m,j,A,D,n,C⟩
def Wy{b:Nat}{e:aO}{N:Nat}{M z y:Int}{N1:Nat}{s:Bool}{XA:Option aI}{xn xc:Nat}(S:SumS h g b e N M z)(i:ZI g s XA xn xc y)(hab:xn+2<=N)(hN2:N<=400000000)(hM:M+y.natAbs<b64^N1)(hN1:N1<=N)
 (hK:∀ h' g',g.le g'->SumS h' g' b e N (M+y.natAbs) (z+y)->K (.tuple #[]) h'):aJ prog 163 #[.pointer (some ⟨b,0,none⟩),.agg #[.bool s,.slice XA xn xc]] h K:=by
 refine (fnk func163 (own:=[3]) (wr:=[220])) ?_
 refine S5 I6 rfl ?_
 intro c a
 have l:g c=none:=by
  cases e1:g c with
  | none=>rfl
  | some u=>rw [S.le _ _ e1] at a;cases a
 have j:=Heap.le_put (.cells #[U 1] 230) l
 refine ⟨_,_,_,rfl,?_⟩
 have one:ZI (g.put c (.cells #[U 1] 230)) false (some ⟨c,0,none⟩) 1 1 1:=by
  refine ⟨aU _,?_,rfl⟩
  refine ⟨[1],rfl,SlI.new _ _ _ _ _,?_,?_,?_⟩
  ·intro x d;simp at d;subst d;decide
  ·unfold Norm;simp
  ·simp [val]
 refine Hh (N1:=N1) (S.put a _) (i.mono j) one oo hN2 (by rw [Int.mul_one];exact hM) hN1 ?_
 intro h' g' k S'
 rw [Int.mul_one] at S'
 exact ⟨rfl,hK h' g' (A0 j k) S'⟩
def RowV.eat{f:Nat->H8}(r:RowV ENr h A n f){i:Nat}(hi:i<n):∃ a e,A=some a/\ENr h e (f i)/\∀ j u,(enc e)[j]? = some u->h.cell? (aC (aC a (i*10)) j)=some u:=r.at dc hi
def Rv(r:RowV ENr h A n (tm ts))(hn:n<=1000)(hK:∀ b h',Own RQr h h' b n (fun i=>rv (tm ts i).1)->K (.slice (some ⟨b,0,none⟩) n n) h'):aJ prog 219 #[.slice A n c] h K:=by
 refine (fnk func219 [(3,[11],[],[I 0])] (own:=[5])) ?_
 refine T5 A9m (zx:=A54) rfl oo oo oo oo ?_
 intro b E
 rw [aE]
 refine ⟨_,_,_,rfl,fun L m=>∃ k:Nat,k<=n/\L=[I k]/\OwnK RQr h m b n k (fun i=>rv (tm ts i).1),fun L _=>n-(iAt L 0).toNat,⟨0,oo,rfl,OwnK.zero E⟩,?_⟩
 rintro t m ⟨k,M,H,g,o,xs,p,s,x,z,q⟩
 obtain rfl:=sI1 H
 refine B4 (fun C=>?_) (fun B=>?_)
 ·have l:k<n:=oo
  obtain ⟨a,e,rfl,⟨D,_⟩,G⟩:=(r.mono In p).eat l
  have d:=fun (j:Nat) (u:aX) (h1:(enc e)[j]? = some u)=>C2 s.le (G j u h1)
  refine ⟨a,rfl,oo,oo,_,_,_,_,_,_,_,_,_,_,_,_,_,_,d 0 _ rfl,d 1 _ rfl,d 2 _ rfl,d 3 _ rfl,d 4 _ rfl,d 5 _ rfl,d 6 _ rfl,d 7 _ rfl,d 8 _ rfl,d 9 _ rfl,_,rfl,oo,oo,?_⟩
  refine OwnK.store Uz Oe (y:=e.w) p (B3 _) s x z q l rfl D ?_
  intro N F
  rw [wiS k oo]
  exact ⟨⟨k+1,oo,rfl,F⟩,by simp only [A04];omega⟩
 ·have:k=n:=oo
  subst this
  exact hK b m ⟨g,o,xs,p,s,x,z,q⟩
def Me{m:Nat}(gl:Gl h)(r:RowV ENr h A n (tm ts))(hn:n<=1000)(hs:∀ i,i<n->Sz m (rv (tm ts i).1))(hm:1+n*m+m<=6400000000)
 (hK:∀ s A' n' c' h',h.le h'->ZI h' s A' n' c' (Ts (fun i=>rv (tm ts i).1) n:Int)->K (.agg #[.bool s,.slice A' n' c']) h'):aJ prog 160 #[.slice A n c] h K:=by
 refine (fnk func160 (own:=[2])) ?_
 refine Rv r hn ?_
 intro b g a
 refine ⟨_,_,_,rfl,?_⟩
 refine Jx (gl.mono a.le) (a.vis Uz) oo hs hm ?_
 intro s A' n' c' h' e d
 exact ⟨_,_,_,_,rfl,hK _ _ _ _ _ (A0 a.le e) d⟩
end
def W4{a b c d:Rat}(h1:a<=b)(h2:c<=d):a+c<=b+d:=gz0
def InI(a b:Rat × Rat):Prop:=b.1<=a.1/\a.2<=b.2
def A28{es:List Int}{f:Nat->Rat × Rat}{x:Nat->Rat}{c:Rat}: ∀ k,(∀ j,j<k->(f j).1<=x j/\x j<=(f j).2)->(tmE es f c k).1<=tmV es x c k/\tmV es x c k<=(tmE es f c k).2
 | 0,_=>⟨aH,aH⟩
 | k+1,h=>by
  obtain ⟨h1,h2⟩:=A28 k fun j g=>h j o
  obtain ⟨e,b⟩:=h k o
  obtain ⟨d,a⟩:=Ft (es.getD k 0).toNat e b
  exact Ik h1 h2 d a
def A2u{ts:List H8}{f:Nat->Rat × Rat}{x:Nat->Rat}{n:Nat}(h:∀ j,j<n->(f j).1<=x j/\x j<=(f j).2):∀ i,(evE ts f n i).1<=evV ts x n i/\evV ts x n i<=(evE ts f n i).2
 | 0=>⟨aH,aH⟩
 | i+1=>by
  obtain ⟨h1,h2⟩:=A2u h i
  obtain ⟨b,a⟩:=A28 (es:=(tm ts i).2) (c:=rv (tm ts i).1) n h
  exact ⟨W4 h1 b,W4 h2 a⟩
def A71{a b c d a' b' c' d':Rat}(h1:a<=b)(h2:c<=d)(i1:InI (a,b) (a',b'))(i2:InI (c,d) (c',d')):InI (Cr a b c d,Cs a b c d) (Cr a' b' c' d',Cs a' b' c' d'):=by
 obtain ⟨k,g⟩:=i1
 obtain ⟨j,i⟩:=i2
 change a'<=a at k
 change b<=b' at g
 change c'<=c at j
 change d<=d' at i
 have p:=Ik (a:=a') (b:=b') (c:=c') (d:=d') (x:=a) (y:=c) k (aL h1 g) j (aL h2 i)
 have q:=Ik (a:=a') (b:=b') (c:=c') (d:=d') (x:=a) (y:=d) k (aL h1 g) (aL j h2) i
 have m:=Ik (a:=a') (b:=b') (c:=c') (d:=d') (x:=b) (y:=c) (aL k h1) g j (aL h2 i)
 have n:=Ik (a:=a') (b:=b') (c:=c') (d:=d') (x:=b) (y:=d) (aL k h1) g (aL j h2) i
 have e:∀ y,(y=a*c\/y∈[a*d,b*c,b*d])->Cr a' b' c' d'<=y/\y<=Cs a' b' c' d':=by
  intro y l
  simp only [cR,cK,or_false] at l
  rcases l with rfl|rfl|rfl|rfl<;>assumption
 exact ⟨(e _ (Sb _ _)).1,(e _ (Ry _ _)).2⟩
def A6v{a b a' b':Rat}(k:Nat)(h1:a<=b)(i:InI (a,b) (a',b')):InI (N8 a b k,N9 a b k) (N8 a' b' k,N9 a' b' k):=by
 obtain ⟨j,g⟩:=i
 change a'<=a at j
 change b<=b' at g
 have n:=Ft (a:=a') (b:=b') (x:=a) k j (aL h1 g)
 have q:=Ft (a:=a') (b:=b') (x:=b) k (aL j h1) g
 show N8 a' b' k<=N8 a b k/\N9 a b k<=N9 a' b' k
 by_cases c:0<k/\k%2=0/\a<0/\0<b
 ·have r:=Ft (a:=a') (b:=b') (x:=0) k (aL j (Rat.le_of_lt c.2.2.1)) (aL (Rat.le_of_lt c.2.2.2) g)
  rw [Vz c.1] at r
  have d:∀ y,(y=0\/y∈[a^k,b^k])->N8 a' b' k<=y/\y<=N9 a' b' k:=by
   intro y p
   simp only [cR,cK,or_false] at p
   rcases p with rfl|rfl|rfl<;>assumption
  have l:N8 a b k=mnL 0 [a^k,b^k]:=by unfold N8;rw [iP c]
  have m:N9 a b k=mxL 0 [a^k,b^k]:=by unfold N9;rw [iP c]
  rw [l,m]
  exact ⟨(d _ (Sb _ _)).1,(d _ (Ry _ _)).2⟩
 ·have l:N8 a b k=mn (a^k) (b^k):=by unfold N8;rw [iN c]
  have m:N9 a b k=mx (a^k) (b^k):=by unfold N9;rw [iN c]
  rw [l,m]
  constructor
  ·rcases Sa (a^k) (b^k) with e|e<;>rw [e]
   ·exact n.1
   ·exact q.1
  ·rcases Rx (a^k) (b^k) with e|e<;>rw [e]
   ·exact n.2
   ·exact q.2
def A42{a b:Rat}(k:Nat)(h:a<=b):N8 a b k<=N9 a b k:=aL (Ft k (aH (a:=a)) h).1 (Ft k (aH (a:=a)) h).2
def A29{es:List Int}{f f':Nat->Rat × Rat}{c:Rat}: ∀ k,(∀ j,j<k->(f j).1<=(f j).2/\InI (f j) (f' j))->InI (tmE es f c k) (tmE es f' c k)
 | 0,_=>⟨aH,aH⟩
 | k+1,h=>by
  have h1:=A29 (es:=es) (c:=c) k fun j d=>h j o
  obtain ⟨a,b⟩:=h k o
  exact A71 (Tf es f c k) (A42 _ a) h1 (A6v _ a b)
def Yu{ts:List H8}{f f':Nat->Rat × Rat}{n:Nat}(h:∀ j,j<n->(f j).1<=(f j).2/\InI (f j) (f' j)):∀ i,InI (evE ts f n i) (evE ts f' n i)
 | 0=>⟨aH,aH⟩
 | i+1=>by
  obtain ⟨h1,h2⟩:=Yu h i
  obtain ⟨b,a⟩:=A29 (es:=(tm ts i).2) (c:=rv (tm ts i).1) n h
  exact ⟨W4 h1 b,W4 h2 a⟩
def Ub(ts:List H8)(f:Nat->Rat × Rat)(n:Nat):∀ i,(evE ts f n i).1<=(evE ts f n i).2
 | 0=>aH
 | i+1=>W4 (Ub ts f n i) (Tf _ f _ n)
structure HdI where
 A:Option aI
 n:Nat
 c:Nat
instance:Enc HdI:=⟨⟨fun s=>[.slice s.A s.n s.c],1,fun _=>rfl,fun s v hv=>by rw [List.mem_singleton.1 hv];rfl⟩⟩
instance:Enc Ivl:=⟨⟨fun x=>[.string (bs x.1),.string (bs x.2)],2,fun _=>rfl,fun x v hv=>by simp at hv;rcases hv with rfl|rfl<;>rfl⟩⟩
abbrev IVr:aF->Ivl->Rat × Rat->Prop:=fun _ w x=>w=(C7 x.1,C7 x.2)
def A4b:Mon IVr:=fun _ _ _ _ _ i=>i
def Sep.giveR{α β:Type}[E:Enc α]{R:aF->α->β->Prop}(m:Mon R){h g o:aF}{ys:List α}{bb n:Nat}{f:Nat->β}(s:Sep h g o)(rb:RowB o bb ys)(hy:ys.length=n)(rr:Row R g ys n f):∃ g2,g.le g2/\Sep h g2 (o.without bb)/\RowV R g2 (some ⟨bb,0,none⟩) n f:=by
 have a:(o.without bb).le o:=fun k x e=>by
  by_cases b:k=bb
  ·subst b
   have:Heap.without o k k=none:=F3 _ _
   rw [this] at e;cases e
  ·unfold Heap.without at e;rw [iN b] at e;exact e
 obtain ⟨g2,d,c⟩:=s.give a
 obtain ⟨e,ex,j⟩:=rb
 have i:g2 bb=some (.cells (ys.flatMap enc++ex).toArray e):=by
  rw [<- c.rest bb (F3 _ _)]
  exact s.own _ _ j
 exact ⟨g2,d,c,ys,RowB.slF (o:=g2) ⟨e,ex,i⟩ (B3 _),hy,rr.mono m d⟩
def pwF(f:Nat->Rat × Rat)(i:Nat):Nat->Rat × Rat:=fun e=>(N8 (f i).1 (f i).2 e,N9 (f i).1 (f i).2 e)
def PwRow(ts:List H8)(f:Nat->Rat × Rat)(g:aF)(hds:List HdI)(i:Nat):Prop:=∃ s,hds[i]? = some s/\(∀ t,t<ts.length->(tm ts t).2.getD i 0<s.n)/\RowV IVr g s.A s.n (pwF f i)
def PwRow.mono{ts:List H8}{f:Nat->Rat × Rat}{g g':aF}{hds:List HdI}{i:Nat}(l:g.le g')(p:PwRow ts f g hds i):PwRow ts f g' hds i:=by
 obtain ⟨s,e,a,b⟩:=p
 exact ⟨s,e,a,b.mono A4b l⟩
def A4n{l:List Ivl}(ok:Ct l){i:Nat}(hi:i<l.length):l[i].1=C7 (bxQ l i).1/\l[i].2=C7 (bxQ l i).2:=by
 obtain ⟨p,q,b,a,_⟩:=ok _ (aK hi)
 unfold bxQ
 rw [aD,aG hi]
 show l[i].1=C7 (rv l[i].1)/\l[i].2=C7 (rv l[i].2)
 rw [b,a,C1,C1]
 exact ⟨rfl,rfl⟩
section
variable {h:aF} {K:VP} {A B:Option aI} {ts:List H8} {vars:Int} {c bc:Nat} {l:List Ivl}
def Gx{x:List UInt8}(hK:K (ivT x x) h):aJ prog 92 #[.string (bs x)] h K:=by
 refine (fnk func92 (own:=[2])) ?_
 exact hK
def U4(gl:Gl h)(pa:cA h A ts)(x:SlV h B (l.flatMap F8))(hts:ts.length<=5)(hcl:∀ i,i<ts.length->(tm ts i).1.length<=8)(hex:∀ i,i<ts.length->∀ j,j<(tm ts i).2.length->(tm ts i).2.getD j 0<=6)(hl:l.length<=8)(ht:∀ x∈l,x.1.length<=20/\x.2.length<=20)
 (hK1:¬ (Ca vars ts/\Ct l)->K (.tuple #[ivE,I 1]) h) (hK4:Ca vars ts->Ct l->(l.length:Int)≠vars->K (.tuple #[ivE,I 4]) h)
 (hK0:Ca vars ts->Ct l->(l.length:Int)=vars->SmE ts (bxQ l) l.length->∀ h',h.le h'->K (.tuple #[ivS (evE ts (bxQ l) l.length ts.length).1 (evE ts (bxQ l) l.length ts.length).2,I 0]) h'):aJ prog 44 #[.agg #[I vars,.slice A ts.length c],.slice B l.length bc] h K:=by
 refine (fnk func44 [(7,[36],[],[I 0]),(11,[54],[],[I 0]),(18,[72],[(10,2)],[I 0,.string ⟨#[]⟩,.string ⟨#[]⟩]),(22,[82],[(13,2)],[I 0,.string ⟨#[]⟩,.string ⟨#[]⟩])] (own:=[2,4,8,10,12,13])) ?_
 refine Ox gl.tz pa oo (fun i r=>by have:=hcl i r;omega) (fun po=>⟨_,rfl,U1 ?_⟩) (fun no=>⟨_,rfl,Y3 (hK1 fun y=>no y.1)⟩)
 refine Cv gl x rfl oo ht (fun bo=>⟨_,rfl,U1 ?_⟩) (fun no=>⟨_,rfl,Y3 (hK1 fun y=>no y.2)⟩)
 refine H9 (fun e=>hK4 po bo e) (fun en=>?_)
 obtain ⟨wf,_⟩:=id po
 have bj:=wf.hi
 have b:∀ i,i<ts.length->(tm ts i).2.length=l.length:=fun i r=>by have:=(wf.all i r).1.len;omega
 have sm:SmE ts (bxQ l) l.length:=⟨hts,oo,fun i r=>Xa (k:=8) (hcl i r) oo,b,fun i r k hk=>⟨((wf.all i r).1.exps _ (Ck (by rw [b i r];exact hk))).1,hex i r k (by rw [b i r];exact hk)⟩,fun k hk=>by
  obtain ⟨V,W⟩:=ht _ (aK hk)
  unfold bxQ
  rw [aD,aG hk]
  exact ⟨Xa (k:=20) V oo,Xa (k:=20) W oo⟩⟩
 have O:=hK0 po bo en sm
 clear hK0 hK1 hK4
 obtain ⟨f,hf⟩:∃ f,f=bxQ l:=⟨_,rfl⟩
 obtain ⟨n,hn⟩:∃ n,n=l.length:=⟨_,rfl⟩
 have bt:=fun {i:Nat} (r:i<l.length)=>A4n bo r
 rw [<- hf,<- hn] at sm O
 rw [<- hf] at bt
 rw [<- hn]
 have bb:=sm.n6
 refine T5 A83 (zx:=(⟨none,0,0⟩:HdI)) rfl oo oo oo oo ?_
 intro bp be
 simp only [aE]
 have s0:=(Sep.refl h).new be (.cells ((aQ n (⟨none,0,0⟩:HdI)).flatMap enc).toArray 65)
 refine ⟨_,_,_,rfl,fun L X=>∃ (k:Nat) (g o:aF) (p:List HdI),k<=n/\L=[I (k:Int)]/\h.le g/\Sep X g o/\bN o bp p/\p.length=n/\∀ i,i<k->PwRow ts f g p i,fun L _=>n-(iAt L 0).toNat,⟨0,h,_,_,oo,rfl,B3 _,s0,RowX.mk,bD,fun i r=>oo⟩,?_⟩
 clear s0
 rintro z ab ⟨k,g,o,p,hk,eL,lg,s,rx,az,w⟩
 obtain rfl:=sI1 eL
 refine B4 (fun a1=>?_) (fun bf=>?_)
 ·have ay:k<n:=oo
  have M:k<l.length:=oo
  have E:=A0 lg s.le
  obtain ⟨a,ea,c0,c1⟩:=Iu x M
  refine ⟨a,ea,oo,oo,_,_,C2 E c0,C2 E c1,?_⟩
  refine s.call (Pl (pa.mono lg) oo (fun t C=>by rw [b t C];exact M) (fun F h0 bg a4 h4 s4=>⟨_,rfl,?_⟩))
  have bm:F<=6:=a4 6 oo fun t C=>hex t C k (by rw [b t C];exact M)
  obtain ⟨e,he⟩:∃ e:Nat,F=(e:Int):=⟨F.toNat,oo⟩
  subst he
  rw [S1 oo]
  refine T5 A7q (zx:=(([],[]):Ivl)) rfl oo oo oo oo ?_
  intro G T
  simp only [aE]
  have fr:bp≠G:=by
   rintro rfl
   obtain ⟨e1,bh⟩:=rx
   rw [s4.own _ _ bh] at T;cases T
  have s5:=s4.new T (.cells ((aQ (e+1) (([],[]):Ivl)).flatMap enc).toArray 23)
  refine ⟨_,_,_,rfl,_,rfl,oo,oo,?_⟩
  refine S0 Wr (y:=(⟨some ⟨G,0,none⟩,e+1,e+1⟩:HdI)) rfl s5 (rx.other fr _) (i:=k) oo ?_
  intro h6 o6 x6 ap s6 S
  have ad:bN o6 G (aQ (e+1) (([],[]):Ivl)):=by
   rw [ap]
   exact RowX.mk.other fr.symm _
  have aj:(p.set k (⟨some ⟨G,0,none⟩,e+1,e+1⟩:HdI))[k]? = some ⟨some ⟨G,0,none⟩,e+1,e+1⟩:=cY oo
  have ac:∀ {hq gq oq:aF},Sep hq gq oq->bN oq bp (p.set k (⟨some ⟨G,0,none⟩,e+1,e+1⟩:HdI))->hq.cell? (aC ⟨bp,0,none⟩ (((k:Int)).toNat*1))=some (.slice (some ⟨G,0,none⟩) (e+1) (e+1)):=fun sq rq=>by
   have h1:=RowB.cell rq.rowB (i:=k) (by rw [aN];omega) (j:=0) (v:=.slice (some ⟨G,0,none⟩) (e+1) (e+1)) (by rw [List.getElem_set_self];rfl)
   rw [G8]
   have h2:=sq.cell h1
   rw [aE,cC]
   exact h2
  refine ⟨_,rfl,oo,oo,_,_,_,ac s6 S,?_⟩
  refine ⟨fun L X=>∃ (j:Nat) (g' o':aF) (ys:List Ivl),j<=e+1/\L=[I (j:Int)]/\g.le g'/\Sep X g' o'/\bN o' bp (p.set k (⟨some ⟨G,0,none⟩,e+1,e+1⟩:HdI))/\bN o' G ys/\ys.length=e+1/\Row IVr g' ys j (pwF f k),fun L _=>e+1-(iAt L 0).toNat,⟨0,g,o6,_,oo,rfl,B3 _,s6,S,ad,bD,Row.nil⟩,?_⟩
  clear ad S s6 s5 ap
  rintro z2 bk ⟨j,g7,o7,ys,hj,H,l7,s7,aa,an,ar,aw⟩
  obtain rfl:=sI1 H
  refine B4 (fun av=>?_) (fun au=>?_)
  ·have bn:j<e+1:=oo
   obtain ⟨V,W⟩:=bt M
   obtain ⟨b1,a2⟩:=sm.box k ay
   refine ⟨_,rfl,oo,oo,_,_,_,ac s7 aa,?_⟩
   rw [V,W]
   refine s7.call (Ks (k:=j) (m:=80) (gl.mono (A0 lg l7)) b1 a2 oo oo oo oo ?_)
   intro h8 s8
   refine ⟨_,_,rfl,s7.le_le s8 (B3 _),_,rfl,oo,oo,?_⟩
   refine S0 A0j (y:=((C7 (N8 (f k).1 (f k).2 j),C7 (N9 (f k).1 (f k).2 j)):Ivl)) rfl s8 an (i:=j) oo ?_
   intro h9 o9 x9 a5 s9 ba
   rw [S1 oo]
   refine ⟨⟨j+1,g7,o9,_,oo,rfl,l7,s9,?_,ba,by rw [aN];exact ar,aw.set oo rfl⟩,by simp only [My];omega⟩
   rw [a5];exact aa.other fr _
  ·obtain rfl:j=e+1:=oo
   obtain ⟨g8,l8,s8,a6⟩:=s7.giveR A4b an.rowB ar aw
   rw [S1 oo]
   refine ⟨⟨k+1,g8,_,_,oo,rfl,A0 lg (A0 l7 l8),s8,aa.keep (fun x e=>by unfold Heap.without;rw [iN fr];exact e),by rw [aN];exact az,fun i r=>?_⟩,by simp only [My];omega⟩
   by_cases ei:i=k
   ·subst ei
    exact ⟨_,aj,fun t C=>by have:=bg t C;show _<((e+1:Nat):Int);omega,a6⟩
   ·obtain ⟨s9,e9,h9,r9⟩:=w i oo
    exact ⟨s9,by rw [List.getElem?_set_ne (fun x=>ei x.symm)];exact e9,h9,r9.mono A4b (A0 l7 l8)⟩
 obtain rfl:k=n:=oo
 have E:=A0 lg s.le
 have aq:=gl.mono E
 have ax:=pa.mono E
 have af:=rx.rowB.slF s.ole
 have pw:∀ i,i<k->PwRow ts f ab p i:=fun i r=>(w i r).mono s.le
 clear w rx s lg
 show aJ _ _ #[.string (bs [48])] _ _
 refine Gx ?_
 have e0:([48]:List UInt8)=C7 0:=Wl.symm
 refine ⟨_,_,rfl,fun L X=>∃ i:Nat,i<=ts.length/\L=[I (i:Int),.string (bs (C7 (evE ts f k i).1)),.string (bs (C7 (evE ts f k i).2))]/\X=ab,fun L _=>ts.length-(iAt L 0).toNat,⟨0,oo,by rw [e0];rfl,rfl⟩,?_⟩
 rintro z u0 u1 Q ⟨i,r,eL,rfl⟩
 simp only [bW,bU,Value.string.injEq,true_and,and_true] at eL
 obtain ⟨rfl,rfl,rfl⟩:=eL
 refine B4 (fun a1=>?_) (fun bf=>?_)
 ·have u:i<ts.length:=oo
  obtain ⟨a,D,d,e1,e2,e3,e4⟩:=ax i u
  refine ⟨a,e1,oo,oo,_,_,_,_,e2,e3,Gx ?_⟩
  obtain ⟨q,eq,_⟩:=(wf.all i u).1.num
  have ec:(tm ts i).1=C7 (rv (tm ts i).1):=by rw [eq,C1]
  refine ⟨_,_,rfl,fun L X=>∃ j:Nat,j<=k/\L=[I (j:Int),.string (bs (C7 (tmE (tm ts i).2 f (rv (tm ts i).1) j).1)),.string (bs (C7 (tmE (tm ts i).2 f (rv (tm ts i).1) j).2))]/\X=Q,fun L _=>k-(iAt L 0).toNat,⟨0,oo,by rw [show tmE (tm ts i).2 f (rv (tm ts i).1) 0=(rv (tm ts i).1,rv (tm ts i).1) from rfl,<- ec];rfl,rfl⟩,?_⟩
  rintro z2 p0 p1 bi ⟨j,hj,H,rfl⟩
  simp only [bW,bU,Value.string.injEq,true_and,and_true] at H
  obtain ⟨rfl,rfl,rfl⟩:=H
  have bl:=b i u
  refine B4 (fun av=>?_) (fun au=>?_)
  ·have R:j<k:=oo
   refine e4.load rfl oo oo ?_
   rw [aE]
   have hx:=sm.exps i u j R
   refine B4 (fun ah=>?_) (fun ah=>?_)
   ·obtain ⟨e,he⟩:∃ e:Nat,(tm ts i).2.getD j 0=(e:Int):=⟨((tm ts i).2.getD j 0).toNat,oo⟩
    obtain ⟨sd,ai,ao,a3⟩:=pw j R
    have ag:=ao i u
    obtain ⟨a7,a0,ae⟩:=SlF.at dc af (i:=j) oo
    have am:p[j]'oo=sd:=by rw [aG oo] at ai;exact bV ai
    rw [am] at ae
    have N:=ae 0 _ rfl
    rw [Qb] at N
    rw [he] at ag ⊢
    obtain ⟨a8,w8,bd,al,ak⟩:=RowV.at dc a3 (i:=e) oo
    change w8=_ at al
    subst al
    refine ⟨a7,a0,oo,oo,_,_,_,N,a8,bd,oo,oo,_,_,ak 0 _ rfl,ak 1 _ rfl,?_⟩
    obtain ⟨V,W⟩:=sm.tm u j oo
    obtain ⟨p1,p2⟩:=sm.pow (e:=e) R oo
    have w:481<=481*2^j:=cT 481 (Nat.pow_pos dc)
    have a9:=Rs (show j<=6 from oo)
    refine Kt (m:=481*2^j) aq V W (p1.mono w) (p2.mono w) oo ?_
    rw [S1 oo]
    refine ⟨_,_,rfl,B3 _,⟨j+1,oo,?_,rfl⟩,by simp only [My];omega⟩
    show _=[I _,.string (bs (C7 (Cr _ _ (N8 _ _ ((tm ts i).2.getD j 0).toNat) (N9 _ _ ((tm ts i).2.getD j 0).toNat)))),.string (bs (C7 (Cs _ _ (N8 _ _ ((tm ts i).2.getD j 0).toNat) (N9 _ _ ((tm ts i).2.getD j 0).toNat))))]
    rw [he]
    rfl
   ·rw [S1 oo]
    exact ⟨⟨j+1,oo,by rw [A0c (show ((tm ts i).2.getD j 0).toNat=0 from oo)],rfl⟩,by simp only [My];omega⟩
  ·obtain rfl:j=k:=oo
   obtain ⟨V,W⟩:=sm.tm u j (aU j)
   obtain ⟨s1,s2⟩:=sm.ev i oo
   have a9:=Rs bb
   refine Vd (m:=400000) aq (s1.mono oo) (s2.mono oo) (V.mono oo) (W.mono oo) oo ?_
   rw [S1 oo]
   exact ⟨_,_,rfl,⟨i+1,oo,rfl,rfl⟩,by simp only [My];omega⟩
 ·obtain rfl:i=ts.length:=oo
  exact O Q E
end
def Qo(l:List Ivl):List (List UInt8):=l.flatMap fun x=>[x.1,x.2]
def Cf(l:List Ivl):(Qo l).flatMap enc=l.flatMap F8:=by
 induction l with
 | nil=>rfl
 | cons x l ih=>
  show ([x.1,x.2]++Qo l).flatMap enc=F8 x++l.flatMap F8
  rw [List.flatMap_append,ih]
  rfl
def A0l(l:List Ivl):(Qo l).length=l.length*2:=by
 induction l with
 | nil=>rfl
 | cons x l ih=>
  show ([x.1,x.2]++Qo l).length=_
  rw [aP,ih,List.length_cons]
  show 2+l.length*2=(l.length+1)*2
  omega
def Og(v:List UInt8):∀ (l:List Ivl) (i:Nat) (_:i<l.length),(Qo l).set (i*2+1) v=Qo (l.set i ((l.getD i ([],[])).1,v))
 | x::l,0,_=>rfl
 | x::l,i+1,h=>by
  have ih:=Og v l i (by simpa using h)
  show (x.1::x.2::Qo l).set ((i+1)*2+1) v=x.1::x.2::Qo (l.set i ((l.getD i ([],[])).1,v))
  rw [show (i+1)*2+1=(i*2+1)+1+1 from o,bA,bA,ih]
def Oh(v:List UInt8):∀ (l:List Ivl) (i:Nat) (_:i<l.length),(Qo l).set (i*2) v=Qo (l.set i (v,(l.getD i ([],[])).2))
 | x::l,0,_=>rfl
 | x::l,i+1,h=>by
  have ih:=Oh v l i (by simpa using h)
  show (x.1::x.2::Qo l).set ((i+1)*2) v=x.1::x.2::Qo (l.set i (v,(l.getD i ([],[])).2))
  rw [show (i+1)*2=(i*2)+1+1 from o,bA,bA,ih]
def Sep.grabE{h g o:aF}(s:Sep h g o){b:Nat}{x:Obj}(hb:g b=some x):Sep h (g.without b) (o.put b x):=by
 have c:o b=none:=by
  cases ho:o b with
  | none=>rfl
  | some y=>rw [s.dis b y ho] at hb;cases hb
 refine ⟨fun k y e=>?_,fun k e=>?_,fun k y e=>?_⟩
 ·by_cases a:k=b
  ·subst a
   rw [B8] at e;cases e
   exact s.le k _ hb
  ·rw [B6 _ _ a] at e;exact s.own k y e
 ·by_cases a:k=b
  ·subst a;rw [B8] at e;cases e
  ·rw [B6 _ _ a] at e
   unfold Heap.without
   rw [iN a];exact s.rest k e
 ·by_cases a:k=b
  ·subst a;exact F3 _ _
  ·rw [B6 _ _ a] at e
   unfold Heap.without
   rw [iN a];exact s.dis k y e
def Hn{h g:aF}{b:Nat}(l:h.le g)(hb:h b=none):h.le (g.without b):=fun k x e=>by
 have a:k≠b:=by rintro rfl;rw [hb] at e;cases e
 unfold Heap.without
 rw [iN a];exact l k x e
def A7n(l:List Ivl)(i:Int)(x:List UInt8):Prop:=0<=i/\i<(l.length:Int)/\(rv (l.getD i.toNat ([],[])).1<=rv x/\rv x<=rv (l.getD i.toNat ([],[])).2)
def B03(l:List Ivl)(i:Int)(x:List UInt8)(l1 l2:List Ivl)(e:Int):Prop:=
 (¬ (Ct l/\cL x)/\l1=[]/\l2=[]/\e=1)\/(Ct l/\cL x/\¬ A7n l i x/\l1=[]/\l2=[]/\e=3)\/(Ct l/\cL x/\A7n l i x/\l1=l.set i.toNat ((l.getD i.toNat ([],[])).1,x)/\l2=l.set i.toNat (x,(l.getD i.toNat ([],[])).2)/\e=0)
section
variable {h:aF} {K:VP} {A B:Option aI} {bc:Nat} {l:List Ivl} {x:List UInt8}
def Um{h1 g1 h2 g2:aF}{A1 A2:Option aI}{c1 c2 i:Nat}(hi:i<l.length)(l1:h.le g1)(p1:PrivF h1 g1 23 A1 c1 l)(l2:h1.le g2)(p2:PrivF h2 g2 23 A2 c2 l)(hl:l.length<=1000){K0:aF->Prop}
 (hK:∀ h',h.le h'->SlV h' A1 ((l.set i ((l.getD i ([],[])).1,x)).flatMap F8)->SlV h' A2 ((l.set i (x,(l.getD i ([],[])).2)).flatMap F8)->K0 h'):
 ∃ a1,A1=some a1/\0<=(i:Int)/\(i:Int)<((l.length:Nat):Int)/\wpH prog (aT 9 (.pointer (some (aC (aC a1 (((i:Int)).toNat*2)) 1))) (.string (bs x))) (fun _ hp5=>∃ a2,A2=some a2/\0<=(i:Int)/\(i:Int)<((l.length:Nat):Int)/\wpH prog (aT 9 (.pointer (some (aC (aC a2 (((i:Int)).toNat*2)) 0))) (.string (bs x))) (fun _ hp6=>K0 hp6) hp5) h2:=by
 have j:l≠[]:=by rintro rfl;simp at hi
 obtain ⟨b,B,rfl,d,rfl,V,G⟩:=Qh p1 j
 obtain ⟨m,D,rfl,u,rfl,L,N⟩:=Qh p2 j
 have c:g2 b=some B:=l2 _ _ (B8 _ _ _)
 have a:b≠m:=by rintro rfl;rw [u] at c;cases c
 have A:h b=none:=by
  cases e:h b with
  | none=>rfl
  | some y=>rw [l1 _ _ e] at d;cases d
 have w:h.le (g2.without b):=Hn (A0 l1 (A0 (Heap.le_put _ d) l2)) A
 have sg:=L.grabE c
 have E:RowB ((Ij.put m D).put b B) b (Qo l):=by
  obtain ⟨e,ex,n⟩:=G
  rw [B8] at n
  refine ⟨e,ex,?_⟩
  rw [B8,n,Cf];rfl
 have M:RowB ((Ij.put m D).put b B) m (Qo l):=by
  obtain ⟨e,ex,n⟩:=N
  refine ⟨e,ex,?_⟩
  rw [B6 _ _ a.symm,n,Cf];rfl
 have C:=A0l l
 refine ⟨_,rfl,o,o,?_⟩
 rw [G8,G8,aE]
 refine Sep.store Gr (y:=x) rfl sg E (i:=i*2+1) o (by show 0+i*2+1=(i*2+1)*1;omega) ?_
 intro R H S r Q z
 refine ⟨_,rfl,o,o,?_⟩
 rw [G8,G8]
 have s:RowB H m (Qo l):=by rw [r];exact M.other a.symm _
 refine Sep.store Gr (y:=x) rfl Q s (i:=i*2) o (by show 0+i*2+0=i*2*1;omega) ?_
 intro O F T q p g
 have k:RowB F b ((Qo l).set (i*2+1) x):=by rw [q];exact z.other a _
 rw [Og x l i hi] at k
 rw [Oh x l i hi] at g
 refine hK O (A0 w p.le) ?_ ?_
 ·have:=k.slF p.ole
  rw [<- Cf];exact this
 ·have:=g.slF p.ole
  rw [<- Cf];exact this
def Iw(y:SlV h B (l.flatMap F8))(hne:l≠[])(hl:l.length<=1000)(hK:∀ A' c' h' g',h.le g'->PrivF h' g' 23 A' c' l->K (.slice A' l.length c') h'):aJ prog 96 #[.slice B l.length bc] h K:=by
 refine (fnk func96) ?_
 obtain ⟨a,rfl,_⟩:=Iu y (i:=0) (List.length_pos_iff.2 hne)
 refine Br.of (fun e=>by cases e) (fun _=>Yf A7q ?_)
 intro b g
 have c:=Heap.le_put (h:=h) (.cells #[] 23) g
 refine ⟨_,_,_,rfl,Gg (α:=Ivl) A7q (PrivF.nil _ 23 (some ⟨b,0,none⟩)) (ys:=l) rfl (y.mono c) (by simp;omega) (by simp;omega) ?_⟩
 intro A' c' h' g' d p
 rw [List.nil_append] at p ⊢
 exact ⟨_,_,_,rfl,hK A' c' h' g' (A0 c d) p⟩
def Sd{i:Int}(gl:Gl h)(y:SlV h B (l.flatMap F8))(hl:l.length<=1000)(ht:∀ x∈l,x.1.length<=20/\x.2.length<=20)(hx:x.length<=20)(hK:∀ l1 l2 e,B03 l i x l1 l2 e->∀ A1 c1 A2 c2 h',h.le h'->SlV h' A1 (l1.flatMap F8)->SlV h' A2 (l2.flatMap F8)->K (.tuple #[.slice A1 l1.length c1,.slice A2 l2.length c2,I e]) h'):aJ prog 46 #[.slice B l.length bc,I i,.string (bs x)] h K:=by
 refine (fnk func46) ?_
 have d:¬ (Ct l/\cL x)->K (.tuple #[.slice none 0 0,.slice none 0 0,I 1]) h:=fun e=>hK [] [] 1 (.inl ⟨e,rfl,rfl,rfl⟩) none 0 none 0 h (B3 _) SlV.nil SlV.nil
 refine Cv gl y rfl o ht (fun A=>⟨_,rfl,U1 ?_⟩) (fun g=>⟨_,rfl,Y3 (d fun z=>g z.1)⟩)
 refine V5 gl o (fun D=>⟨_,rfl,U1 ?_⟩) (fun g=>⟨_,rfl,Y3 (d fun z=>g z.2)⟩)
 have c:¬ A7n l i x->K (.tuple #[.slice none 0 0,.slice none 0 0,I 3]) h:=fun e=>hK [] [] 3 (.inr (.inl ⟨A,D,e,rfl,rfl,rfl⟩)) none 0 none 0 h (B3 _) SlV.nil SlV.nil
 refine B4 (fun e=>c fun z=>by have:=z.1;omega) (fun e0=>B4 (fun e=>c fun z=>by have:=z.2.1;omega) (fun e1=>?_))
 obtain ⟨k,rfl⟩:∃ k:Nat,i=(k:Int):=⟨i.toNat,o⟩
 have b:k<l.length:=o
 obtain ⟨a,ea,c0,c1⟩:=Iu y b
 obtain ⟨V,L⟩:=ht _ (aK b)
 have u:l.getD ((k:Int)).toNat ([],[])=l[k]:=by rw [aE,aD,aG b];rfl
 refine ⟨a,ea,o,o,_,_,c0,c1,?_⟩
 refine Cw (m:=80) gl (P7 (k:=20) V o o) (P7 (k:=20) L o o) (P7 (k:=20) hx o o) o (fun p q r n s j S O=>⟨_,rfl,U1 ?_⟩) (fun g=>⟨_,rfl,Y3 (c fun z=>g ?_)⟩)
 ·have C:A7n l (k:Int) x:=⟨o,o,by rw [u,n,s,j,C1,C1,C1];exact ⟨S,O⟩⟩
  refine Iw y (by rintro rfl;simp at b) hl ?_
  intro A1 R h3 g3 H E
  have w:=A0 H E.le
  refine ⟨_,_,_,rfl,Iw (y.mono w) (by rintro rfl;simp at b) hl ?_⟩
  intro A2 M h4 g4 T N
  refine ⟨_,_,_,rfl,?_⟩
  refine Um b H E T N hl ?_
  intro h' X W Q
  have:=hK _ _ 0 (.inr (.inr ⟨A,D,C,rfl,rfl,rfl⟩)) A1 R A2 M h' X W Q
  rw [aN,aN] at this
  exact this
 ·obtain ⟨p,q,n,s,_⟩:=A _ (aK b)
  obtain ⟨r,j⟩:=D
  obtain ⟨_,_,G,F⟩:=z
  rw [u,n,j,C1,C1] at G
  rw [u,s,j,C1,C1] at F
  exact ⟨p,q,r,n,s,j,G,F⟩
end
section
variable {h:aF} {K:VP} {A B:Option aI} {c bc:Nat} {l:List Ivl} {x:List UInt8} {ts:List H8} {vars:Int}
end
def Mj(lo hi s:List UInt8):List UInt8:=if rv s<rv lo then lo else if rv hi<rv s then hi else C7 (rv s)
def A47{p q:Rat}(s:List UInt8)(h:p<=q):∃ x,Mj (C7 p) (C7 q) s=C7 x/\p<=x/\x<=q:=by
 unfold Mj
 rw [C1,C1]
 by_cases a:rv s<p
 ·rw [iP a];exact ⟨p,rfl,aH,h⟩
 ·rw [iN a]
  by_cases b:q<rv s
  ·rw [iP b];exact ⟨q,rfl,h,aH⟩
  ·rw [iN b];exact ⟨rv s,rfl,gz0,gz0⟩
section
variable {h:aF} {K:VP} {m:Nat} {lo hi x lo2 hi2 s t:List UInt8}
def Mq(gl:Gl h)(ta:Tx m lo)(tb:Tx m hi)(hm:m<=576000000000000)(hK:∀ lo' hi',((lo'=lo/\hi'=hi)\/(lo'=hi/\hi'=lo))->rv lo'<=rv hi'->K (ivT lo' hi') h):aJ prog 8 #[ivT lo hi] h K:=by
 refine (fnk func8 (own:=[1,2])) ?_
 refine H3 gl ta tb o ⟨_,rfl,B4 (fun e=>?_) (fun e=>?_)⟩
 ·exact hK hi lo (.inr ⟨rfl,rfl⟩) (by have:=Do.1 e;grind)
 ·exact hK lo hi (.inl ⟨rfl,rfl⟩) (by have:¬ rv hi<rv lo:=fun h=>e (Do.2 h);grind)
def Kq(gl:Gl h)(ta:Tx m lo)(tb:Tx m hi)(ts:Tx m s)(hm:m<=1000000)(hm1:1<=m)(hK:K (.string (bs (Mj lo hi s))) h):aJ prog 24 #[ivT lo hi,.string (bs s)] h K:=by
 refine (fnk func24 (own:=[2])) ?_
 refine Ia (b:=[48]) gl ts ⟨by simp,by rw [A86];exact Sz.zero hm1⟩ o ⟨_,rfl,?_⟩
 rw [A86,Rat.add_zero]
 refine H3 gl (Tx.of ts.sz o) ta o ⟨_,rfl,?_⟩
 rw [C1]
 unfold Mj at hK
 refine B4 (fun e=>?_) (fun e=>?_)
 ·rw [iP (Nk.1 e)] at hK;exact hK
 ·rw [iN (fun a=>e (Nk.2 a))] at hK
  refine H3 gl (Tx.of ts.sz o) tb o ⟨_,rfl,?_⟩
  rw [C1]
  refine B4 (fun c=>?_) (fun c=>?_)
  ·rw [iP (Do.1 c)] at hK;exact hK
  ·rw [iN (fun a=>c (Do.2 a))] at hK;exact hK
def Ze{p q r:Rat}(gl:Gl h)(hp:Sz m p)(hq:Sz m q)(hr:Sz m r)(hm:m<=10000000)(h1:p<=r)(h2:r<=q)(hK:K (.bool true) h):aJ prog 15 #[ivT (C7 p) (C7 q),.string (bs (C7 r))] h K:=by
 refine Vc gl (Tx.of hp o) (Tx.of hq o) (Tx.of hr o) o ?_
 rw [Kz h1 h2];exact hK
end
abbrev R4:=List UInt8 × List UInt8 × Bool × Int
abbrev r4(x:R4):aX:=.tuple #[ivT x.1 x.2.1,.bool x.2.2.1,I x.2.2.2]
def Yn(lo hi lo2 hi2:List UInt8):R3:=if ivB lo hi&&ivB lo2 hi2 then (C7 (mn (rv lo) (rv lo2)),C7 (mx (rv hi) (rv hi2)),0) else ([],[],1)
def Sz.mn{m:Nat}{p q:Rat}(hp:Sz m p)(hq:Sz m q):Sz m (mn p q):=by rcases Sa p q with e|e<;>rw [e]<;>assumption
def Sz.mx{m:Nat}{p q:Rat}(hp:Sz m p)(hq:Sz m q):Sz m (mx p q):=by rcases Rx p q with e|e<;>rw [e]<;>assumption
def Mz{p q r s:Rat}(h:p<=q)(h2:r<=s):Yn (C7 p) (C7 q) (C7 r) (C7 s)=(C7 (mn p r),C7 (mx q s),0):=by rw [Yn,iP (Ln h h2),C1,C1,C1,C1]
def A1g{lo hi lo2 hi2:List UInt8}(h:¬ (Qi lo hi/\Qi lo2 hi2)):Yn lo hi lo2 hi2=([],[],1):=by rw [Yn,Nx h,iN (by simp)]
def Fu{m:Nat}{q:Rat}(h:Sz m q):∀ t∈[q],Sz m t:=fun t a=>by rw [List.mem_singleton.1 a];exact h
section
variable {h:aF} {K:VP} {m:Nat} {lo hi x lo2 hi2:List UInt8}
def A2p(gl:Gl h)(ta:Tx m lo)(tb:Tx m hi)(tc:Tx m lo2)(td:Tx m hi2)(hm:m<=1000000)(hK:K (r3 (Yn lo hi lo2 hi2)) h):aJ prog 47 #[ivT lo hi,ivT lo2 hi2] h K:=by
 refine FCall.pure ((fnk func47 (os:=[(3,[0,1,2,3,6,7,8,9,4,5,10,11,12,13,14])]) (al:=[(3,[(4,[10]),(5,[10])])]) (own:=[2,3,4])) ?_)
 have y:¬ (Qi lo hi/\Qi lo2 hi2)->h.le h/\K (.tuple #[.agg #[.string ({ data:=#[] }:ByteArray),.string ({ data:=#[] }:ByteArray)],I (1:Int)]) h:=by
  intro g
  rw [A1g g] at hK
  exact ⟨B3 _,hK⟩
 refine J8 gl ta tb o (fun p q D C u=>⟨_,rfl,?_⟩) (fun g=>⟨_,rfl,y fun x=>g x.1⟩)
 refine J8 gl tc td o (fun r s E F e=>⟨_,rfl,?_⟩) (fun g=>⟨_,rfl,y fun x=>g x.2⟩)
 subst D C E F
 have i:=ta.sz;have l:=tb.sz;have k:=tc.sz;have j:=td.sz
 rw [C1] at i l k j
 rw [Mz u e] at hK
 refine ⟨Bk R1 (ls:=[C7 r]) rfl (by simp) rfl ?_,Bk R1 (ls:=[C7 s]) rfl (by simp) rfl ?_⟩
 ·intro A B c n
  refine ⟨_,_,_,rfl,c,?_,?_⟩
  ·refine Ci (qs:=[r]) (gl.mono c) rfl n i (Fu k) o (by simp) ⟨_,rfl,B3 _,?_⟩
   refine Bk R1 (ls:=[C7 s]) rfl (by simp) rfl ?_
   intro z w b d
   have a:=A0 c b
   exact ⟨_,_,_,rfl,b,R6 (qs:=[s]) (gl.mono a) rfl d l (Fu j) o (by simp) ⟨_,rfl,B3 _,a,hK⟩⟩
  ·refine Bk R1 (ls:=[C7 s]) rfl (by simp) rfl ?_
   intro z w b d
   have a:=A0 c b
   refine ⟨_,_,_,rfl,b,Ci (qs:=[r]) (gl.mono a) rfl (n.mono b) i (Fu k) o (by simp) ⟨_,rfl,B3 _,?_⟩⟩
   exact R6 (qs:=[s]) (gl.mono a) rfl d l (Fu j) o (by simp) ⟨_,rfl,B3 _,a,hK⟩
 ·intro A B c n
  refine ⟨_,_,_,rfl,c,Bk R1 (ls:=[C7 r]) rfl (by simp) rfl ?_⟩
  intro z w b d
  have a:=A0 c b
  refine ⟨_,_,_,rfl,b,Ci (qs:=[r]) (gl.mono a) rfl d i (Fu k) o (by simp) ⟨_,rfl,B3 _,?_⟩⟩
  exact R6 (qs:=[s]) (gl.mono a) rfl (n.mono b) l (Fu j) o (by simp) ⟨_,rfl,B3 _,a,hK⟩
end
def Kx{K:aI->aF->Prop}{h:aF}{e:EV}(x:∀ b,h b=none->K ⟨b,0,none⟩ (h.put b (.cells (enc e).toArray 203))):
 wpH prog (cM 203 true (.tuple #[])) (fun v1 hp=>∃ (p:aI),v1= .pointer (some p)/\wpH prog (aT 203 (.pointer (some p)) e.v) (fun _ hp2=>K p hp2) hp) h:=by
 refine Jm Y7.info fun b c=>⟨_,rfl,?_⟩
 have y:=x b c
 have key:=Fm (P:=prog) (t:=203) (n:=10) Of (v:=e.v) (vs:=enc e) rfl rfl (instEncEV.default.one e) (g:=h) (b:=b) (off:=0) (e:=203) (arr:=[I (0:Int),I (0:Int),I (0:Int),I (0:Int),I (0:Int),I (0:Int),.bool false,.slice none 0 0,.bool false,.slice none 0 0]) dc (K:=fun _ hp2=>K ⟨b,0,none⟩ hp2) (by
  have:G9 [I (0:Int),I (0:Int),I (0:Int),I (0:Int),I (0:Int),I (0:Int),.bool false,.slice none 0 0,.bool false,.slice none 0 0] 0 (enc e)=enc e:=by
   have a:(enc e).length=10:=rfl
   simp [G9,a]
  rw [this];exact y)
 rw [O3] at key
 exact key
def Sep.grow{h g o h' g':aF}(s:Sep h g o)(s':Sep h' g' o)(l:g.le g'):h.le h':=fun k x e=>by
 cases ho:o k with
 | some y=>
  have:=s.own k y ho
  rw [e] at this;cases this
  exact s'.own k _ ho
 | none=>
  rw [s.rest k ho] at e
  rw [s'.rest k ho];exact l k x e
def A7w{h g o:aF}{b i:Nat}{ws:List IV}(s:Sep h g o)(rb:bN o b ws)(hi:i<ws.length):h.cell? (aC (aC ⟨b,0,none⟩ (i*2)) 0)=some (.bool ws[i].s)/\h.cell? (aC (aC ⟨b,0,none⟩ (i*2)) 1)=some (.slice ws[i].A ws[i].n ws[i].c):=by
 have d:=s.cell (RowB.cell rb.rowB hi (j:=0) (v:=.bool ws[i].s) rfl)
 have a:=s.cell (RowB.cell rb.rowB hi (j:=1) (v:=.slice ws[i].A ws[i].n ws[i].c) rfl)
 rw [R8,R8,O3,O3,cC,cC]
 exact ⟨d,a⟩
def Zt{α β:Type}[E:Enc α]{R:aF->α->β->Prop}(m:Mon R){h g o:aF}{ys:List α}{bb n:Nat}{f:Nat->β}(s:Sep h g o)(rb:RowB o bb ys)(hy:ys.length=n)(rr:Row R g ys n f):∃ g2,g.le g2/\Sep h g2 (o.without bb)/\RowV R g2 (some ⟨bb,0,none⟩) n f:=by
 have a:(o.without bb).le o:=fun k x e=>by
  by_cases b:k=bb
  ·subst b
   have:Heap.without o k k=none:=F3 _ _
   rw [this] at e;cases e
  ·unfold Heap.without at e;rw [iN b] at e;exact e
 obtain ⟨g2,d,c⟩:=s.give a
 obtain ⟨e,ex,j⟩:=rb
 have i:g2 bb=some (.cells (ys.flatMap enc++ex).toArray e):=by
  rw [<- c.rest bb (F3 _ _)]
  exact s.own _ _ j
 exact ⟨g2,d,c,ys,RowB.slF (o:=g2) ⟨e,ex,i⟩ (B3 _),hy,rr.mono m d⟩
def Rj{h:aF}{K:VP}{w:QV}{q:Rat}(_:RQ h w q)(hK:K (.agg #[.bool w.s,.slice w.A w.n w.c]) h):aJ prog 162 #[w.v] h K:=by
 refine (fnk func162 (own:=[1,2])) ?_
 exact hK
def A2v(e:EV):∀ {k:Nat},k<6->(enc e)[k]? = some (I (e.xs.getD k 0))
 | 0,_=>rfl
 | 1,_=>rfl
 | 2,_=>rfl
 | 3,_=>rfl
 | 4,_=>rfl
 | 5,_=>rfl
 | k+6,h=>by omega
def Lr:prog.cellsOf 91=2/\(prog.info? 91).isSome=true:=A37
abbrev exA(ts:List H8)(k i:Nat):Int:=(tm ts i).2.getD k 0
section
variable {h hp g o hp5:aF} {A:Option aI} {ts:List H8} {n k G D T p bs bp dn dc:Nat} {w:QV} {q:Rat} {d:Int} {sc:Nat->Int} {ws:List IV} {ds:Bool} {dA:Option aI} {Invv1:LP} {muv1:LN}
def A9c(er:RowV ENr g A n (tm ts))(s:Sep hp g o)(rb:bN o bs ws)(hw:ws.length=n)(rr:Row ZIr g ws n sc)(rp:RowV ZIr g (some ⟨bp,0,none⟩) (G+1) (pwZ q G))(iq:RQ g w q)(id:ZI g ds dA dn dc d)(hk6:k<6)(hn:n<=1000)(hG:G<=1000)(hex:∀ i,i<n->0<=exA ts k i/\exA ts k i<=(G:Int))(zb:∀ i,i<n->ZB T (sc i))(zp:∀ e,e<=G->ZB T (pwZ q G e))(zd:ZB T d)(hpm:p<=6400000000)(hq:Sz p q)(hp1:1<=p)(hT:T<=100000000)(hpT:p*G+1<=T)
 (hcont:∀ hp' g' o' ws' ds' dA' dn' dc',g.le g'->Sep hp' g' o'->bN o' bs ws'->ws'.length=n->Row ZIr g' ws' n (fun i=>sc i*pwZ q G (exA ts k i).toNat)->ZI g' ds' dA' dn' dc' (d*(q.den:Int)^G)->Invv1 [I (B7 ((k:Int)+1)),.bool ds',.slice dA' dn' dc'] hp'/\muv1 [I (B7 ((k:Int)+1)),.bool ds',.slice dA' dn' dc'] hp'<muv1 [I (k:Int),.bool ds,.slice dA dn dc] hp5):
 Gi prog A n (some ⟨bs,0,none⟩) n Invv1 muv1 (k:Int) ds dA dn dc w.s w.A w.n w.c w.s2 w.A2 w.n2 w.c2 (G:Int) (some ⟨bp,0,none⟩) (G+1) hp5 hp:=by
 unfold Gi
 refine ⟨fun L hp'=>∃ (i:Nat) (g' o':aF) (ws':List IV),i<=n/\L=[I (i:Int)]/\g.le g'/\Sep hp' g' o'/\bN o' bs ws'/\ws'.length=n/\Row ZIr g' ws' n (fun j=>if j<i then sc j*pwZ q G (exA ts k j).toNat else sc j),fun L _=>n-(iAt L 0).toNat,⟨0,g,o,ws,oo,rfl,B3 _,s,rb,hw,rr.congr fun j _=>by rw [iN oo]⟩,?_⟩
 clear rb s hw rr
 rintro z S ⟨i,R,o2,b,hi,eL,H,s,rb,hw,rr⟩
 obtain rfl:=sI1 eL
 refine B4 (fun ag=>?_) (fun af=>?_)
 ·have x:i<n:=oo
  obtain ⟨a,e,ea,⟨_,M⟩,hc⟩:=(er.mono In H).eat x
  have l:=fun (j:Nat) (u:aX) (h1:(enc e)[j]? = some u)=>C2 s.le (hc j u h1)
  refine ⟨a,ea,oo,oo,_,_,_,_,_,_,_,_,_,_,_,_,_,_,l 0 _ rfl,l 1 _ rfl,l 2 _ rfl,l 3 _ rfl,l 4 _ rfl,l 5 _ rfl,l 6 _ rfl,l 7 _ rfl,l 8 _ rfl,l 9 _ rfl,?_⟩
  refine Kx (e:=e) ?_
  intro B E
  have ac:R B=none:=by
   cases e1:R B with
   | none=>rfl
   | some u=>rw [s.le _ _ e1] at E;cases E
  have m:=s.vis E (.cells (enc e).toArray 203)
  have r:R.le (R.put B (.cells (enc e).toArray 203)):=Heap.le_put _ ac
  have N:(S.put B (.cells (enc e).toArray 203)).cell? (aC (aC ⟨B,0,none⟩ 0) (k*1))=some (I (e.xs.getD k 0)):=by
   rw [Nat.mul_one,O3]
   exact H0 rfl (A2v e hk6)
  obtain ⟨X,hg3'⟩:∃ X,X=R.put B (.cells (enc e).toArray 203):=⟨_,rfl⟩
  obtain ⟨hp3,hhp3⟩:∃ hp3,hp3=S.put B (.cells (enc e).toArray 203):=⟨_,rfl⟩
  rw [<- hg3',<- hhp3] at m
  rw [<- hg3'] at r
  rw [<- hhp3] at N ⊢
  have D:i<b.length:=oo
  obtain ⟨c0,c1⟩:=A7w m rb D
  refine ⟨_,rfl,oo,oo,_,_,_,_,c0,c1,⟨oo,oo⟩,_,N,?_⟩
  have ab:e.xs.getD k 0=exA ts k i:=M k hk6
  rw [ab]
  obtain ⟨x0,xG⟩:=hex i x
  have aa:(exA ts k i).toNat<G+1:=oo
  obtain ⟨ap,wp,ad,ip,p0,p1⟩:=(rp.mono Im (A0 H r)).zat aa
  refine ⟨ap,ad,x0,oo,_,_,_,_,C2 m.le p0,C2 m.le p1,?_⟩
  have ae:=(rr.mono Im r).get x D
  have Q:ZI X b[i].s b[i].A b[i].n b[i].c (sc i):=by
   have:(fun j=>if j<i then sc j*pwZ q G (exA ts k j).toNat else sc j) i=sc i:=iN oo
   rw [<- this];exact ae
  refine m.call (G1 Q ip (zb i x) (zp _ oo) oo ?_)
  intro s1 A1 n1 O g4 C i4 aj F
  refine ⟨_,_,_,_,rfl,m.grow F C,_,rfl,oo,oo,?_⟩
  refine S0 Lr (y:=(⟨s1,A1,n1,O⟩:IV)) rfl F rb (i:=i) oo ?_
  intro h5 o5 x5 e5 W r5
  rw [wiS i oo]
  refine ⟨⟨i+1,g4,o5,_,oo,rfl,A0 H (A0 r C),W,r5,by rw [aN];exact hw,?_⟩,by simp only [A04];omega⟩
  have r6:=(rr.mono Im (A0 r C)).upd D (w:=(⟨s1,A1,n1,O⟩:IV)) (y:=sc i*pwZ q G (exA ts k i).toNat) i4
  refine r6.congr fun j _=>?_
  show (if j=i then _ else (if j<i then _ else _))=_
  by_cases e6:j=i
  ·subst e6;rw [iP rfl,iP oo]
  ·rw [iN e6]
   by_cases e7:j<i
   ·rw [iP e7,iP oo]
   ·rw [iN e7,iN oo]
 ·obtain rfl:i=n:=oo
  have pG:p*G+1<=100000000:=oo
  refine s.call (Q1 (iq.mono H) ?_)
  intro s1 A1 n1 c1 X r i3 h3 m
  refine ⟨_,_,_,_,rfl,s.grow m r,?_⟩
  rw [C0 oo oo]
  refine m.call (U9 i3 hq.den hp1 oo hpm oo ?_)
  intro ai A4 n4 c4 g4 C i4 h4 F
  refine ⟨_,_,_,_,rfl,m.grow F C,?_⟩
  refine F.call (G1 (id.mono (A0 H (A0 r C))) i4 zd ((hq.den.pow hp1 G).mono hpT) oo ?_)
  intro ah A5 n5 c5 g5 l5 i5 h5 W
  have V:=A0 r (A0 C l5)
  refine ⟨_,_,_,_,rfl,F.grow W l5,?_⟩
  exact hcont h5 g5 o2 b _ _ _ _ (A0 H V) W rb hw ((rr.mono Im V).congr fun j hj=>by rw [iP hj]) i5
abbrev A9u(ts:List H8)(n k bs:Nat)(q:Rat)(d:Int)(sc:Nat->Int)(g:aF)(D:Nat)(Q:Bool->Option aI->Nat->Nat->aF->Prop):Prop:=∀ (G:Nat),G<=D->(∀ i,i<n->exA ts k i<=(G:Int))->∀ hp' g' o' ws' ds' dA' dn' dc',g.le g'->Sep hp' g' o'->bN o' bs ws'->ws'.length=n->Row ZIr g' ws' n (fun i=>sc i*pwZ q G (exA ts k i).toNat)->ZI g' ds' dA' dn' dc' (d*(q.den:Int)^G)->Q ds' dA' dn' dc' hp'
abbrev A9k(Invv1:LP)(muv1:LN)(k:Nat)(ds:Bool)(dA:Option aI)(dn dc:Nat)(hp5:aF)(ds':Bool)(dA':Option aI)(dn' dc':Nat)(hp':aF):Prop:=Invv1 [I (B7 ((k:Int)+1)),.bool ds',.slice dA' dn' dc'] hp'/\muv1 [I (B7 ((k:Int)+1)),.bool ds',.slice dA' dn' dc'] hp'<muv1 [I (k:Int),.bool ds,.slice dA dn dc] hp5
def A9d(er:RowV ENr g A n (tm ts))(s:Sep hp g o)(rb:bN o bs ws)(hne:bs≠bp)(hw:ws.length=n)(rr:Row ZIr g ws n sc)(rx:bN o bp (aQ (G+1) (⟨false,none,0,0⟩:IV)))(iq:RQ g w q)(id:ZI g ds dA dn dc d)(hk6:k<6)(hn:n<=1000)(hG:G<=D)(hD:D<=1000)(hex:∀ i,i<n->0<=exA ts k i/\exA ts k i<=(G:Int))(zb:∀ i,i<n->ZB T (sc i))(zd:ZB T d)(hq:Sz p q)(hp1:1<=p)(hT:T<=100000000)(hpT:p*D+2<=T)(hpm:p<=6400000000)
 (hcont:A9u ts n k bs q d sc g D (A9k Invv1 muv1 k ds dA dn dc hp5)):
 Gj prog A n (some ⟨bs,0,none⟩) n Invv1 muv1 (k:Int) ds dA dn dc w.s w.A w.n w.c w.s2 w.A2 w.n2 w.c2 (G:Int) (some ⟨bp,0,none⟩) (G+1) hp hp5:=by
 unfold Gj
 have ah:p*G<=p*D:=aS _ hG
 refine ⟨fun L b=>∃ (e:Nat) (r B:aF) (xs:List IV),e<=G+1/\L=[I (e:Int)]/\g.le r/\Sep b r B/\bN B bs ws/\bN B bp xs/\xs.length=G+1/\Row ZIr r xs e (pwZ q G),fun L _=>G+1-(iAt L 0).toNat,⟨0,g,o,_,oo,rfl,B3 _,s,rb,rx,bD,Row.nil⟩,?_⟩
 clear rb s rx
 rintro z aj ⟨e,g2,o2,xs,he,eL,l,s,rb,rx,j,rp⟩
 obtain rfl:=sI1 eL
 refine B4 (fun ae=>?_) (fun ad=>?_)
 ·have W:e<=G:=oo
  have ag:p*e<=p*G:=aS _ W
  have ac:p*(G-e)<=p*G:=aS _ oo
  refine Rj ((iq.mono l).mono s.le) ⟨_,_,_,_,rfl,B3 _,?_⟩
  rw [C0 oo oo]
  refine s.call (U9 (iq.mono l).num hq.num hp1 oo hpm oo ?_)
  intro af A3 n3 c3 g3 u i3 h3 C
  refine ⟨_,_,_,_,rfl,s.grow C u,?_⟩
  refine C.call (Q1 (iq.mono (A0 l u)) ?_)
  intro ak A4 n4 c4 g4 O i4 h4 F
  refine ⟨_,_,_,_,rfl,C.grow F O,?_⟩
  rw [show B7 ((G:Int)-(e:Int))=((G-e:Nat):Int) by rw [B5]<;>omega,C0 oo oo]
  refine F.call (U9 i4 hq.den hp1 oo hpm oo ?_)
  intro ai A5 n5 c5 g5 H i5 h5 S
  refine ⟨_,_,_,_,rfl,F.grow S H,?_⟩
  refine S.call (G1 (m:=T) (i3.mono (A0 O H)) i5 ((hq.num.pow hp1 e).mono oo) ((hq.den.pow hp1 (G-e)).mono oo) oo ?_)
  intro ab A6 n6 c6 g6 l6 i6 h6 s6
  have E:=A0 u (A0 O (A0 H l6))
  refine ⟨_,_,_,_,rfl,S.grow s6 l6,_,rfl,oo,oo,?_⟩
  refine S0 Lr (y:=(⟨ab,A6,n6,c6⟩:IV)) rfl s6 rx (i:=e) oo ?_
  intro h7 o7 x7 e7 s7 r7
  rw [wiS e oo]
  refine ⟨⟨e+1,g6,o7,_,oo,rfl,A0 l E,s7,?_,r7,by rw [aN];exact j,?_⟩,by simp only [A04];omega⟩
  ·rw [e7];exact rb.other hne _
  ·exact (rp.mono Im E).set oo i6
 ·obtain rfl:e=G+1:=oo
  obtain ⟨g3,u,C,X⟩:=Zt Im s rx.rowB j rp
  have V:bN (o2.without bp) bs ws:=rb.keep fun x hx=>by
   unfold Heap.without;rw [iN hne];exact hx
  have a:=A0 l u
  exact A9c (T:=T) (er.mono In a) C V hw (rr.mono Im a) X (iq.mono a) (id.mono a) hk6 hn oo hex zb (fun e he=>(A2i hq hp1 he hG).mono hpT) zd hpm hq hp1 hT oo (fun b r B Q N M R aa l'=>hcont G hG (fun i hi=>(hex i hi).2) b r B Q N M R aa (A0 a l'))
def A9e(er:RowV ENr g A n (tm ts))(s:Sep hp g o)(rb:bN o bs ws)(hw:ws.length=n)(rr:Row ZIr g ws n sc)(iq:RQ g w q)(id:ZI g ds dA dn dc d)(hk6:k<6)(hn:n<=1000)(hD:D<=1000)(hex:∀ i,i<n->0<=exA ts k i/\exA ts k i<=(D:Int))(zb:∀ i,i<n->ZB T (sc i))(zd:ZB T d)(hq:Sz p q)(hp1:1<=p)(hT:T<=100000000)(hpT:p*D+2<=T)(hpm:p<=6400000000)
 (hcont:A9u ts n k bs q d sc g D (A9k Invv1 muv1 k ds dA dn dc hp)):
 Gk prog A n (some ⟨bs,0,none⟩) n Invv1 muv1 (k:Int) ds dA dn dc w.s w.A w.n w.c w.s2 w.A2 w.n2 w.c2 hp:=by
 unfold Gk
 refine ⟨fun L r=>∃ (i G:Nat) (H:aF),i<=n/\L=[I (G:Int),I (i:Int)]/\g.le H/\Sep r H o/\G<=D/\∀ j,j<i->exA ts k j<=(G:Int),fun L _=>n-(iAt L 1).toNat,⟨0,0,g,oo,rfl,B3 _,s,oo,fun j M=>oo⟩,?_⟩
 clear s
 rintro zG z aa ⟨i,G,g2,hi,eL,m,s,hG,l⟩
 obtain ⟨rfl,rfl⟩:zG=(G:Int)/\z=(i:Int):=by simpa using eL
 refine B4 (fun af=>?_) (fun ae=>?_)
 ·have E:i<n:=oo
  obtain ⟨a,e,ea,⟨_,B⟩,hc⟩:=(er.mono In m).eat E
  have b:=fun (j:Nat) (u:aX) (h1:(enc e)[j]? = some u)=>C2 s.le (hc j u h1)
  refine ⟨a,ea,oo,oo,_,_,_,_,_,_,_,_,_,_,_,_,_,_,b 0 _ rfl,b 1 _ rfl,b 2 _ rfl,b 3 _ rfl,b 4 _ rfl,b 5 _ rfl,b 6 _ rfl,b 7 _ rfl,b 8 _ rfl,b 9 _ rfl,?_⟩
  refine Kx (e:=e) ?_
  intro F y
  have R:g2 F=none:=by
   cases e1:g2 F with
   | none=>rfl
   | some u=>rw [s.le _ _ e1] at y;cases y
  have O:(aa.put F (.cells (enc e).toArray 203)).cell? (aC (aC ⟨F,0,none⟩ 0) (k*1))=some (I (e.xs.getD k 0)):=by
   rw [Nat.mul_one,O3]
   exact H0 rfl (A2v e hk6)
  refine ⟨⟨oo,oo⟩,_,O,?_⟩
  have Q:e.xs.getD k 0=exA ts k i:=B k hk6
  rw [Q,wiS i oo]
  obtain ⟨x0,xD⟩:=hex i E
  have hm:(if exA ts k i>(G:Int) then exA ts k i else (G:Int))=((if exA ts k i>(G:Int) then (exA ts k i).toNat else G:Nat):Int):=by split<;>omega
  rw [hm]
  refine ⟨⟨i+1,_,_,oo,rfl,A0 m (Heap.le_put _ R),s.vis y _,by split<;>omega,fun j M=>?_⟩,by simp only [iAt,aR,aM];omega⟩
  by_cases e6:j=i
  ·subst e6;split<;>omega
  ·have:=l j oo
   split<;>omega
 ·obtain rfl:i=n:=oo
  rw [wiS G oo]
  refine T5 tZs (zx:=(⟨false,none,0,0⟩:IV)) rfl oo oo oo oo ?_
  intro b2 x
  rw [aE]
  have C:bs≠b2:=by
   rintro rfl
   obtain ⟨e1,W⟩:=rb
   rw [s.own _ _ W] at x;cases x
  refine ⟨_,_,_,rfl,?_⟩
  have s2:=s.new x (.cells ((aQ (G+1) (⟨false,none,0,0⟩:IV)).flatMap enc).toArray 91)
  exact A9d (er.mono In m) s2 (rb.other C _) C hw (rr.mono Im m) RowX.mk (iq.mono m) (id.mono m) hk6 hn hG hD (fun j M=>⟨(hex j M).1,l j M⟩) zb zd hq hp1 hT hpT hpm (fun G' S N r H o' ab X V ac ad l'=>hcont G' S N r H o' ab X V ac ad (A0 m l'))
end
section
variable {h hp g o:aF} {K:VP} {A B:Option aI} {ts:List H8} {n v m D T p bs dn dc c cc:Nat} {x:Nat->Rat} {d:Int} {sc:Nat->Int} {ds:Bool} {dA:Option aI}
def A9b{bp:Nat}(gl:Gl hp)(hbp:hp bp=none)(rz:RowV ZIr hp (some ⟨bs,0,none⟩) n sc)(id:ZI hp ds dA dn dc d)(hn:n<=1000)(hd:0<d)(zb:∀ i,i<n->ZB T (sc i))(zd:ZB T d)(hT1:1<=T)(hT:T<=100000000)
 (he:∀ i,i<n->(sc i:Rat)=tmV (tm ts i).2 x (rv (tm ts i).1) v*(d:Rat))
 (hK:∀ w h',hp.le h'->RQ h' w (evV ts x v n)->K w.v h'):
 Gh prog K (some ⟨bs,0,none⟩) n ds dA dn dc ⟨bp,0,none⟩ (hp.put bp (.cells #[.slice none 0 0,.slice none 0 0] 205)):=by
 unfold Gh
 have Z0:SumS (hp.put bp (.cells #[.slice none 0 0,.slice none 0 0] 205)) hp bp 205 200000001 0 0:=SumS.zero hbp
 refine ⟨fun L p=>∃ (k:Nat) (g:aF),k<=n/\L=[I (k:Int)]/\hp.le g/\SumS p g bp 205 200000001 (suA sc k) (suZ sc k),fun L _=>n-(iAt L 0).toNat,⟨0,hp,oo,rfl,B3 _,Z0⟩,?_⟩
 rintro z p ⟨k,g,N,D,j,Z⟩
 obtain rfl:=sI1 D
 refine B4 (fun A=>?_) (fun y=>?_)
 ·have b:k<n:=oo
  obtain ⟨a,G,F,r,c0,c1⟩:=(rz.mono Im j).zat b
  refine ⟨a,F,oo,oo,_,_,_,_,C2 Z.le c0,C2 Z.le c1,?_⟩
  have O:G.n<=100000000:=ZI.len r (zb k b) oo
  have R:=A5g zb (k+1) b
  have u:=A43 (m:=T) (k:=k+1) oo oo
  refine Wy Z r oo oo (N1:=T) (by show suA sc (k+1)<_;omega) oo ?_
  intro V H E Z3
  rw [wiS k oo]
  exact ⟨rfl,⟨k+1,H,oo,rfl,A0 j E,Z3⟩,by simp only [A04];omega⟩
 ·obtain rfl:k=n:=oo
  refine Ls Z oo ?_
  intro S Av nv M Q l B
  have c:=A0 j (A0 Z.le l)
  refine ⟨_,_,_,_,rfl,l,?_⟩
  refine Nc (m:=T+10) (gl.mono c).tz B (id.mono c) (A5e hn zb) (zd.mono oo) oo ?_
  intro w C s q
  refine ⟨_,_,_,_,_,_,_,_,rfl,s,hK w C (A0 c s) ?_⟩
  have e:d≠0:=oo
  have:bO (suZ sc k) d=evV ts x v k:=by
   rw [Rat.divInt_eq_div,A5f he k (aU _)]
   exact Rat.mul_div_cancel (Ki e)
  rw [this] at q
  exact q
def A3a{es:List Int}{c0:Rat}{k G:Nat}{s0:Int}{e:Int}(h0:0<=e)(he:e=es.getD k 0)(hG:e<=(G:Int))(hs:(s0:Rat)=tmV es x c0 k*(d:Rat)):((s0*pwZ (x k) G e.toNat:Int):Rat)=tmV es x c0 (k+1)*((d*((x k).den:Int)^G:Int):Rat):=by
 subst he
 show _=(tmV es x c0 k*x k^(es.getD k 0).toNat)*_
 rw [aZ,A6u (x k) (show (es.getD k 0).toNat<=G from oo),hs,aZ]
 grind
def B00{S:Nat}(gl:Gl h)(lg0:h.le g)(s:Sep hp g o){ws:List IV}(rb:bN o bs ws)(hw:ws.length=n)(rr:Row ZIr g ws n sc)(er:RowV ENr h A n (tm ts))(px:RowV RQr h B v x)(id:ZI g ds dA dn dc d)(hn:n<=1000)(hv:v<=6)(hD:D<=1000)(hx:∀ j,j<v->Sz p (x j))(hp1:1<=p)(hpm:p<=6400000000)(hex:∀ k,k<v->∀ i,i<n->0<=exA ts k i/\exA ts k i<=(D:Int))(hd:0<d)(zb:∀ i,i<n->ZB S (sc i))(zd:ZB S d)(hT:S+6*(p*D+2)<=T)(hT1:T<=100000000)
 (he:∀ i,i<n->(sc i:Rat)=rv (tm ts i).1*(d:Rat))
 (hK:∀ w h',h.le h'->RQ h' w (evV ts x v n)->K w.v h'):
 Jp prog A n B v K ds dA dn dc (some ⟨bs,0,none⟩) n hp:=by
 unfold Jp
 refine ⟨fun L l=>∃ (k:Nat) (g o:aF) (ws:List IV) (sc:Nat->Int) (d:Int) (ds:Bool) (dA:Option aI) (dn dc:Nat),k<=v/\L=[I (k:Int),.bool ds,.slice dA dn dc]/\h.le g/\Sep l g o/\bN o bs ws/\ws.length=n/\Row ZIr g ws n sc/\ZI g ds dA dn dc d/\0<d/\(∀ i,i<n->ZB (S+k*(p*D+2)) (sc i))/\ZB (S+k*(p*D+2)) d/\∀ i,i<n->(sc i:Rat)=tmV (tm ts i).2 x (rv (tm ts i).1) k*(d:Rat),fun L _=>v-(iAt L 0).toNat,
  ⟨0,g,o,ws,sc,d,ds,dA,dn,dc,oo,rfl,lg0,s,rb,hw,rr,id,hd,fun i c=>(zb i c).mono oo,zd.mono oo,he⟩,?_⟩
 clear lg0 s rb hw rr id hd zb zd he
 rintro z ds dA dn dc ad ⟨k,g,o,ws,sc,d,q,m,u,y,hk,V,C,s,rb,hw,rr,id,hd,zb,zd,he⟩
 simp only [bW,bU,Value.bool.injEq,Value.slice.injEq,true_and,and_true] at V
 obtain ⟨rfl,rfl,rfl,rfl,rfl⟩:=V
 refine B4 (fun ab=>?_) (fun aa=>?_)
 ·have b:k<v:=oo
  have N:k*(p*D+2)+(p*D+2)<=6*(p*D+2):=by
   rw [<- cD];exact bG _ oo
  obtain ⟨a,w,rfl,iw,d0,d1,d2,d3⟩:=(px.mono Uz C).qat b
  refine ⟨a,rfl,oo,oo,_,_,_,_,_,_,_,_,C2 s.le d0,C2 s.le d1,C2 s.le d2,C2 s.le d3,?_⟩
  refine A9e (T:=T) (D:=D) (p:=p) (er.mono In C) s rb hw rr iw id oo hn hD (hex k b) (fun i c=>(zb i c).mono oo) (zd.mono oo) (hx k b) hp1 hT1 oo hpm ?_
  intro G X r l g' o' M q m u y R s' H E F O
  have ac:p*G<=p*D:=aS _ X
  unfold A9k
  rw [wiS k oo]
  have W:S+(k+1)*(p*D+2)=(S+k*(p*D+2))+(p*D+2):=by rw [cD];omega
  refine ⟨⟨k+1,g',o',M,_,_,q,m,u,y,oo,rfl,A0 C R,s',H,E,F,O,?_,fun i c=>?_,?_,fun i c=>?_⟩,by simp only [A04];omega⟩
  ·have:(0:Int)<((x k).den:Int)^G:=bH (by have:=(x k).den_pos;omega)
   exact Int.mul_pos hd this
  ·rw [W]
   exact (zb i c).mul (A2i (hx k b) hp1 (by have:=r i c;have:=(hex k b i c).1;omega) X)
  ·rw [W]
   exact zd.mul (((hx k b).den.pow hp1 G).mono oo)
  ·exact A3a (hex k b i c).1 rfl (r i c) (he i c)
 ·obtain rfl:k=v:=oo
  have N:k*(p*D+2)<=6*(p*D+2):=bG _ hv
  refine Fb A0k ?_
  intro bp Q
  refine ⟨_,rfl,?_⟩
  have e:=A0 C s.le
  refine A9b (T:=T) (gl.mono e) Q ⟨ws,rb.rowB.slF s.ole,hw,rr.mono Im s.le⟩ (id.mono s.le) hn hd (fun i c=>(zb i c).mono oo) (zd.mono oo) oo hT1 he ?_
  intro w h' R i'
  exact hK w h' (A0 e R) i'
def Pa(gl:Gl h)(er:RowV ENr h A n (tm ts))(px:RowV RQr h B v x)(hn:n<=1000)(hv:v<=6)(hD:D<=1000)(hcf:∀ i,i<n->Sz m (rv (tm ts i).1))(hx:∀ j,j<v->Sz p (x j))(hp1:1<=p)(hex:∀ k,k<v->∀ i,i<n->0<=exA ts k i/\exA ts k i<=(D:Int))(hT:m+(1+n*m+m)+6*(p*D+2)<=100000000)(hpm:p<=100000000)
 (hK:∀ w h',h.le h'->RQ h' w (evV ts x v n)->K w.v h'):aJ prog 95 #[.slice A n c,.slice B v cc] h K:=by
 refine Vs _ _ _ _ _ _ ?_
 unfold Zy
 refine Me gl er hn hcf oo ?_
 intro s1 A1 n1 c1 H l1 Q
 refine ⟨_,_,_,_,rfl,?_⟩
 refine T5 tZs (zx:=(⟨false,none,0,0⟩:IV)) rfl oo oo oo oo ?_
 intro b hb
 rw [aE]
 obtain ⟨d,ed⟩:∃ d,d=Ts (fun i=>rv (tm ts i).1) n:=⟨_,rfl⟩
 have q:=Yi (f:=fun i=>rv (tm ts i).1) (m:=m) n hcf
 have N:=A1d (fun i=>rv (tm ts i).1) n
 have C:=fun i F=>A1e (fun i=>rv (tm ts i).1) n i F
 rw [<- ed] at Q q N C
 refine ⟨_,_,_,rfl,fun L W=>∃ (k:Nat) (g o:aF) (M:List IV),k<=n/\L=[I (k:Int)]/\H.le g/\Sep W g o/\bN o b M/\M.length=n/\Row ZIr g M k (fun i=>scl (rv (tm ts i).1) (d:Int)),fun L _=>n-(iAt L 0).toNat,⟨0,H,_,_,oo,rfl,B3 _,Cm hb,RowX.mk,by simp,Row.nil⟩,?_⟩
 rintro z W ⟨k,g,o,M,hk,eL,G,s,rb,X,R⟩
 obtain rfl:=sI1 eL
 have E:=A0 l1 G
 refine B4 (fun ab=>?_) (fun aa=>?_)
 ·have r:k<n:=oo
  obtain ⟨a,e,rfl,⟨ie,_⟩,hc⟩:=(er.mono In E).eat r
  have l:=fun (j:Nat) (u:aX) (H:(enc e)[j]? = some u)=>C2 s.le (hc j u H)
  refine ⟨a,rfl,oo,oo,_,_,_,_,_,_,_,_,_,_,_,_,_,_,l 0 _ rfl,l 1 _ rfl,l 2 _ rfl,l 3 _ rfl,l 4 _ rfl,l 5 _ rfl,l 6 _ rfl,l 7 _ rfl,l 8 _ rfl,l 9 _ rfl,?_⟩
  refine s.call (Ri (m:=1+n*m+m) ie (Q.mono G) ((hcf k r).mono oo) (q.mono oo) oo ?_)
  intro O A3 n3 c3 g3 V i3 h3 s3
  refine ⟨_,_,_,_,rfl,_,rfl,oo,oo,?_⟩
  refine S0 Lr (y:=(⟨O,A3,n3,c3⟩:IV)) rfl s3 rb (i:=k) oo ?_
  intro h5 o5 x5 e5 s5 r5
  rw [wiS k oo]
  exact ⟨⟨k+1,g3,o5,_,oo,rfl,A0 G V,s5,r5,by rw [aN];exact X,(R.mono Im V).set oo i3⟩,by simp only [A04];omega⟩
 ·obtain rfl:k=n:=oo
  refine B00 (S:=m+(1+k*m)) (T:=100000000) (p:=p) (D:=D) gl E s rb X R er px (Q.mono G) hn hv hD hx hp1 oo hex oo (fun i F=>A5j (hcf i F) q) (q.mono oo) oo (aU _) (fun i F=>A5k (Int.natCast_dvd_natCast.2 (C i F))) hK
end
section
variable {h:aF} {K:VP} {A B:Option aI} {ts:List H8} {m D p c cc:Nat}
def Ru{vars:Int}{n2:Nat}{ls:Nat->List UInt8}(gl:Gl h)(pa:cA h A ts)(px:RowV SSr h B n2 ls)(hts:ts.length<=1000)(hD:D<=1000)(hcl:∀ i,i<ts.length->(tm ts i).1.length<=1000)(hxl:∀ i,i<n2->(ls i).length<=10000)(hn2:n2<=1000)
 (hcf:∀ i,i<ts.length->Sz m (rv (tm ts i).1)) (hx:∀ j,j<n2->Sz p (rv (ls j))) (hp1:1<=p) (hT:m+(1+ts.length*m+m)+6*(p*D+2)<=10000000) (hpm:p<=10000000) (hex:∀ i,i<ts.length->∀ k,k<(tm ts i).2.length->(tm ts i).2.getD k 0<=(D:Int))
 (hsz:Ca vars ts->(n2:Int)=vars->Sz 40000000 (evV ts (fun i=>rv (ls i)) n2 ts.length))
 (hK1:¬ (Ca vars ts/\∀ i,i<n2->cL (ls i))->∀ h',h.le h'->K (.tuple #[.string ({ data:=#[] }:ByteArray),I 1]) h')
 (hK4:(Ca vars ts/\∀ i,i<n2->cL (ls i))->(n2:Int)≠vars->∀ h',h.le h'->K (.tuple #[.string ({ data:=#[] }:ByteArray),I 4]) h')
 (hK0:Ca vars ts->(∀ i,i<n2->cL (ls i))->(n2:Int)=vars->∀ h',h.le h'->K (.tuple #[.string (bs (C7 (evV ts (fun i=>rv (ls i)) n2 ts.length))),I 0]) h'):aJ prog 45 #[.agg #[I vars,.slice A ts.length c],.slice B n2 cc] h K:=by
 refine (fnk func45 (own:=[2])) ?_
 refine Oz gl.tz pa hts (fun i g=>by have:=hcl i g;omega) (fun u A1 c1 G l F=>⟨_,_,_,_,rfl,?_⟩) (fun s G l=>⟨_,_,_,_,rfl,?_⟩)
 ·refine Gt (gl.mono l) (px.mono Uy l) o (fun i g=>by have:=hxl i g;omega) (fun a b x r=>⟨_,_,_,_,rfl,U1 (U1 ?_)⟩) (fun n x z=>⟨_,_,_,_,rfl,U1 (Y3 (hK1 (fun y=>n y.2) _ (A0 l z)))⟩)
  have d:=A0 l r.le
  refine H9 (fun e=>hK4 ⟨u,a⟩ e _ d) (fun E=>?_)
  obtain ⟨wf,_⟩:=id u
  have L:=wf.hi
  refine Pa (m:=m) (p:=p) (D:=D) (gl.mono d) (F.mono In r.le) (r.vis Uz) hts o hD hcf hx hp1 (fun k M i g=>?_) o o ?_
  ·have N:=(wf.all i g).1.len
   have q:k<(tm ts i).2.length:=o
   exact ⟨((wf.all i g).1.exps _ (Ck q)).1,hex i g k q⟩
  ·intro w O C H
   refine ⟨_,_,_,_,_,_,_,_,rfl,L9 (gl.mono (A0 d C)).p10 H (hsz u E) o ⟨_,rfl,hK0 u a E _ (A0 d C)⟩⟩
 ·refine Gt (gl.mono l) (px.mono Uy l) o (fun i g=>by have:=hxl i g;omega) (fun a b x r=>⟨_,_,_,_,rfl,Y3 (hK1 (fun y=>s y.1) _ (A0 l r.le))⟩) (fun n x z=>⟨_,_,_,_,rfl,Y3 (hK1 (fun y=>s y.1) _ (A0 l z))⟩)
end
def A27{es:List Int}{x:Nat->Rat}{c:Rat}{m p D:Nat}(hp:1<=p)(hc:Sz m c):∀ k,(∀ j,j<k->Sz p (x j))->(∀ j,j<k->(es.getD j 0).toNat<=D)->Sz (m+k*(p*D+1)) (tmV es x c k)
 | 0,_,_=>hc.mono o
 | k+1,hx,he=>by
  have h1:=A27 hp hc k (fun j a=>hx j o) (fun j a=>he j o)
  have b:=(hx k o).pow hp (es.getD k 0).toNat
  have d:p*(es.getD k 0).toNat<=p*D:=aS _ (he k o)
  refine (h1.mul b).mono ?_
  rw [cD];omega
def A2t{ts:List H8}{x:Nat->Rat}{n M:Nat}: ∀ i,(∀ t,t<i->Sz M (tmV (tm ts t).2 x (rv (tm ts t).1) n))->Sz (1+i*(M+1)) (evV ts x n i)
 | 0,_=>Sz.zero o
 | i+1,h=>by
  have h1:=A2t i fun t a=>h t o
  refine (h1.add (h i o)).mono ?_
  rw [cD];omega
def Tv{l:List Ivl}{k j:Nat}{v:Ivl}(hk:k<l.length):(l.set k v).getD j ([],[])=if j=k then v else l.getD j ([],[]):=by
 rw [aD,aD]
 by_cases e:j=k
 ·subst e;rw [iP rfl,cY hk];rfl
 ·rw [iN e,List.getElem?_set_ne (fun x=>e x.symm)]
def Lb{l:List Ivl}(bo:Ct l){k:Nat}(hk:k<l.length):∃ p q,l.getD k ([],[])=(C7 p,C7 q)/\p<=q/\bxQ l k=(p,q):=by
 obtain ⟨p,q,b,a,h⟩:=bo _ (aK hk)
 have e:l.getD k ([],[])=(C7 p,C7 q):=by
  rw [aD,aG hk]
  exact Prod.ext b a
 exact ⟨p,q,e,h,by unfold bxQ;rw [e,C1,C1]⟩
def A0o{l:List Ivl}{k:Nat}{r:Rat}(bo:Ct l)(hk:k<l.length)(h1:(bxQ l k).1<=r)(h2:r<=(bxQ l k).2):Ct (l.set k ((l.getD k ([],[])).1,C7 r))/\∀ j,j<l.length->(bxQ (l.set k ((l.getD k ([],[])).1,C7 r)) j).1<=(bxQ (l.set k ((l.getD k ([],[])).1,C7 r)) j).2/\InI (bxQ (l.set k ((l.getD k ([],[])).1,C7 r)) j) (bxQ l j):=by
 obtain ⟨p,q,i,w,d⟩:=Lb bo hk
 rw [d] at h1 h2
 rw [i]
 refine ⟨fun y n=>?_,fun j m=>?_⟩
 ·rcases aY n with h|rfl
  ·exact bo y h
  ·exact ⟨p,r,rfl,rfl,h1⟩
 ·obtain ⟨u,x,s,c,b⟩:=Lb bo m
  have g:bxQ (l.set k (C7 p,C7 r)) j=if j=k then (p,r) else bxQ l j:=by
   unfold bxQ
   rw [Tv hk]
   by_cases e:j=k
   ·rw [iP e,iP e,C1,C1]
   ·rw [iN e,iN e]
  show _/\InI (bxQ (l.set k (C7 p,C7 r)) j) _
  have a:(bxQ (l.set k (C7 p,C7 r)) j).1<=(bxQ (l.set k (C7 p,C7 r)) j).2/\InI (bxQ (l.set k (C7 p,C7 r)) j) (bxQ l j):=by
   rw [g]
   by_cases e:j=k
   ·subst e
    rw [iP rfl,d]
    exact ⟨h1,aH,h2⟩
   ·rw [iN e,b]
    exact ⟨c,aH,aH⟩
  exact a
def A0p{l:List Ivl}{k:Nat}{r:Rat}(bo:Ct l)(hk:k<l.length)(h1:(bxQ l k).1<=r)(h2:r<=(bxQ l k).2):Ct (l.set k (C7 r,(l.getD k ([],[])).2))/\∀ j,j<l.length->(bxQ (l.set k (C7 r,(l.getD k ([],[])).2)) j).1<=(bxQ (l.set k (C7 r,(l.getD k ([],[])).2)) j).2/\InI (bxQ (l.set k (C7 r,(l.getD k ([],[])).2)) j) (bxQ l j):=by
 obtain ⟨p,q,i,w,d⟩:=Lb bo hk
 rw [d] at h1 h2
 rw [i]
 refine ⟨fun y n=>?_,fun j m=>?_⟩
 ·rcases aY n with h|rfl
  ·exact bo y h
  ·exact ⟨r,q,rfl,rfl,h2⟩
 ·obtain ⟨u,x,s,c,b⟩:=Lb bo m
  have g:bxQ (l.set k (C7 r,C7 q)) j=if j=k then (r,q) else bxQ l j:=by
   unfold bxQ
   rw [Tv hk]
   by_cases e:j=k
   ·rw [iP e,iP e,C1,C1]
   ·rw [iN e,iN e]
  have a:(bxQ (l.set k (C7 r,C7 q)) j).1<=(bxQ (l.set k (C7 r,C7 q)) j).2/\InI (bxQ (l.set k (C7 r,C7 q)) j) (bxQ l j):=by
   rw [g]
   by_cases e:j=k
   ·subst e
    rw [iP rfl,d]
    exact ⟨h2,h1,aH⟩
   ·rw [iN e,b]
    exact ⟨c,aH,aH⟩
  exact a
def A73{a p r:Rat}(h1:a<=p)(h2:a<=r):mn (mn p r) a=a:=by unfold mn;grind
def A48{a p r:Rat}(h1:p<=a)(h2:r<=a):mx (mx p r) a=a:=by unfold mx;grind
def atF(l:List Ivl)(sn:Nat)(ls:Nat->List UInt8)(j:Nat):List UInt8:=Mj (l.getD j ([],[])).1 (l.getD j ([],[])).2 (if j<sn then ls j else [48])
def A7i{l:List Ivl}{sn:Nat}{ls:Nat->List UInt8}(bo:Ct l){j:Nat}(hj:j<l.length):∃ x,atF l sn ls j=C7 x/\(bxQ l j).1<=x/\x<=(bxQ l j).2:=by
 obtain ⟨p,q,c,b,a⟩:=Lb bo hj
 unfold atF
 rw [c,a]
 exact A47 _ b
def Wz{s:List UInt8}{k:Nat}(h:s.length<=k)(hk:1<=k):(C7 (rv s)).length<=k:=by
 by_cases a:cL s
 ·obtain ⟨q,rfl⟩:=a
  rw [C1];exact h
 ·rw [Ti a,Wl];exact hk
def Xv{lo hi s:List UInt8}(h1:lo.length<=20)(h2:hi.length<=20)(h3:s.length<=8):(Mj lo hi s).length<=20:=by
 unfold Mj
 split
 ·exact h1
 ·split
  ·exact h2
  ·exact cF (Wz h3 o) o
def A4r{l:List Ivl}{sn:Nat}{ls:Nat->List UInt8}(ht:∀ x∈l,x.1.length<=20/\x.2.length<=20)(hs:∀ i,i<sn->(ls i).length<=8){j:Nat}(hj:j<l.length):(atF l sn ls j).length<=20:=by
 have e:l.getD j ([],[])=l[j]:=by rw [aD,aG hj];rfl
 obtain ⟨b,a⟩:=ht _ (aK hj)
 unfold atF
 rw [e]
 refine Xv b a ?_
 split
 ·exact hs j ‹_›
 ·decide
section
variable {h:aF} {K:VP} {A B:Option aI} {c bc:Nat} {l:List Ivl} {ts:List H8} {vars:Int}
def Vb{n:Int}{b:Nat}(h1:1<=b)(h2:b<=1000)(hK:∀ k:Nat,k<b->K (I (k:Int)) h):aJ prog 12 #[I n,I (b:Int)] h K:=by
 refine (fnk func12) ?_
 have h1:=Int.tmod_lt_of_pos n (show (0:Int)<(b:Int) from o)
 have h2:=Int.lt_tmod_of_pos n (show (0:Int)<(b:Int) from o)
 refine B4 (fun e=>o) (fun _=>B4 (fun c=>?_) (fun a=>?_))
 ·have:=hK (cH n b+b).toNat o
  rw [show B7 (cH n b+b)=(((cH n b+b).toNat:Nat):Int) by rw [B5]<;>omega]
  exact this
 ·have:=hK (cH n b).toNat o
  rw [show ((cH n b).toNat:Int)=cH n b from o] at this
  exact this
def He(gl:Gl h)(y:SlV h B (l.flatMap F8))(hl:l.length<=4398046510976)(ht:∀ x∈l,x.1.length<=140737488351232/\x.2.length<=140737488351232)(hK:∀ A' c' h' (l':List Ivl),h.le h'->SlV h' A' (l'.flatMap F8)->l'.length=l.length->K (.slice A' l'.length c') h'):aJ prog 41 #[.slice B l.length bc] h K:=by
 refine (fnk func41 [(3,[3,4],[],[.slice none 0 0,I 0])]) ?_
 refine ⟨fun L n=>∃ (k:Nat) (A':Option aI) (c':Nat) (d:List Ivl) (g:aF),L=[.slice A' d.length c',I (k:Int)]/\k<=l.length/\d.length=k/\h.le g/\PrivF n g 23 A' c' d,fun L _=>l.length-(iAt L 1).toNat,⟨0,none,0,[],h,rfl,o,rfl,B3 _,PrivF.nil _ _ _⟩,?_⟩
 rintro E on G z n ⟨k,A',c',d,g,w,H,m,e,pr⟩
 obtain ⟨⟨rfl,rfl,rfl⟩,rfl⟩:=sI2 w
 refine B4 (fun r=>?_) (fun p=>?_)
 ·have c:k<l.length:=o
  have b:=A0 e pr.le
  obtain ⟨a,D,c0,c1⟩:=Iu y c
  obtain ⟨A,q⟩:=ht _ (aK c)
  refine ⟨a,D,o,o,_,_,C2 b c0,C2 b c1,?_⟩
  refine Mq (gl.mono b) (P7 (k:=140737488351232) A o o) (P7 (k:=140737488351232) q o o) o ?_
  intro j i _ _
  refine ⟨_,_,rfl,?_⟩
  refine Md (ty:=65) A7q pr (y:=((j,i):Ivl)) rfl dc o o ?_
  intro A2 c2 F u C s
  rw [B5 o o]
  exact ⟨⟨k+1,A2,c2,_,u,by rw [aP];rfl,o,by rw [aP,m];rfl,A0 e C,s⟩,by simp only [iAt,aR,aM];omega⟩
 ·exact hK _ _ _ d (A0 e pr.le) pr.sl o
def Pe{k:Int}{n a:Nat}{ls:Nat->List UInt8}(r:RowV SSr h A n ls)(hn:n<=1000000000)(hK1:(∀ i,i<n->((ls i).length:Int)<=k)->K (.bool true) h)(hK0:¬ (∀ i,i<n->((ls i).length:Int)<=k)->K (.bool false) h):aJ prog 23 #[I k,.slice A n a] h K:=by
 refine (fnk func23 [(2,[5],[],[I 0])]) ?_
 refine ⟨fun L c=>∃ i:Nat,i<=n/\L=[I (i:Int)]/\c=h/\∀ j,j<i->((ls j).length:Int)<=k,fun L _=>n-(iAt L 0).toNat,⟨0,o,rfl,rfl,fun j m=>o⟩,?_⟩
 rintro z c ⟨i,w,u,rfl,d⟩
 obtain rfl:=sI1 u
 refine B4 (fun l=>?_) (fun g=>?_)
 ·have b:i<n:=o
  obtain ⟨x,rfl,p⟩:=r.sat b
  refine ⟨x,rfl,o,o,_,p,?_⟩
  rw [I9]
  refine B4 (fun e=>hK0 fun s=>by have:=s i b;omega) (fun e=>?_)
  rw [wiS i o]
  refine ⟨⟨i+1,o,rfl,rfl,fun j m=>?_⟩,by simp only [A04];omega⟩
  by_cases q:j=i
  ·subst q;omega
  ·exact d j o
 ·have:i=n:=o
  subst this
  exact hK1 d
def law_values{i:Int}{S:Option aI}{sn sc:Nat}{ls:Nat->List UInt8}(gl:Gl h)(pa:cA h A ts)(y0:SlV h B (l.flatMap F8))(hl0:l.length<=4398046510976)(ht0:∀ x∈l,x.1.length<=140737488351232/\x.2.length<=140737488351232)(px:RowV SSr h S sn ls):aJ prog 6 #[.agg #[I vars,.slice A ts.length c],.slice B l.length bc,.slice S sn sc,I i] h (A9j h):=by
 refine (fnk func6 [(9,[11,12],[],[.slice none 0 0,I 0])] (own:=[4,9,18,20,22,23])) ?_
 have aw:∀ h',h.le h'->aJ prog 11 #[] h' (fun r hp=>∃ t,r= .bool t/\A9j h (.bool t) hp):=fun h' l=>Vp (gl.mono l) ⟨_,rfl,rfl,l⟩
 refine He gl y0 hl0 ht0 ?_
 clear y0 hl0 ht0
 intro B c0 h1 l R y _
 refine ⟨_,_,_,rfl,?_⟩
 have G:=aw h1 R
 have bv:=gl.mono R
 have ag:=pa.mono R
 refine Iq ag (fun am av=>⟨_,rfl,U1 ?_⟩) (fun _=>⟨_,rfl,Y3 G⟩)
 refine Yk ag o (fun i hi=>by have:=(av i hi).2;omega) (fun _ b2=>⟨_,rfl,U1 ?_⟩) (fun _=>⟨_,rfl,Y3 G⟩)
 refine B4 (fun _=>G) (fun h6=>H9 (fun _=>G) (fun bn=>?_))
 refine Sc y rfl o (fun ht=>⟨_,rfl,U1 ?_⟩) (fun _=>⟨_,rfl,Y3 G⟩)
 refine B4 (fun _=>G) (fun h8=>?_)
 refine Pe (px.mono Uy R) o (fun hs=>⟨_,rfl,U1 ?_⟩) (fun _=>⟨_,rfl,Y3 G⟩)
 have a1:∀ i,i<sn->(ls i).length<=8:=fun i hi=>by have:=hs i hi;omega
 have X:∀ i,i<ts.length->(tm ts i).1.length<=8:=fun i hi=>(av i hi).1
 have N:∀ i,i<ts.length->∀ j,j<(tm ts i).2.length->(tm ts i).2.getD j 0<=6:=fun i hi j d=>by have:=b2 i hi j d;omega
 refine U4 bv ag y am X N o ht (fun _=>⟨_,_,_,rfl,H9 (fun _=>G) (fun e=>absurd e dc)⟩) (fun _ _ e=>absurd bn e) (fun po bo en sm h2 bk=>⟨_,_,_,rfl,H9 (fun e=>absurd rfl e) (fun _=>?_)⟩)
 have ba:=A0 R bk
 refine E4 (fun _=>aw h2 ba) (fun b4=>?_)
 have b6:0<l.length:=o
 refine ⟨fun L hp=>∃ (k:Nat) (A':Option aI) (c':Nat) (es:List (List UInt8)) (g:aF),L=[.slice A' es.length c',I (k:Int)]/\k<=l.length/\es.length=k/\h2.le g/\PrivF hp g 9 A' c' es/\∀ j,j<k->es[j]? = some (atF l sn ls j),fun L _=>l.length-(iAt L 1).toNat,⟨0,none,0,[],h2,rfl,o,rfl,B3 _,PrivF.nil _ _ _,fun j d=>o⟩,?_⟩
 rintro oA on oc z h3 ⟨k,A',c',es,g,eL,hk,bi,lg,pr,bl⟩
 obtain ⟨⟨rfl,rfl,rfl⟩,rfl⟩:=sI2 eL
 have au:=A0 lg pr.le
 have W:=A0 ba au
 have a0:=A0 bk au
 have ac:=gl.mono W
 have y3:=y.mono a0
 have tx:∀ {j:Nat},j<l.length->Tx 80 (l.getD j ([],[])).1/\Tx 80 (l.getD j ([],[])).2:=fun {j} d=>by
  have e:l.getD j ([],[])=l[j]:=by rw [aD,aG d];rfl
  obtain ⟨t1,t2⟩:=ht _ (aK d)
  rw [e]
  exact ⟨P7 (k:=20) t1 o o,P7 (k:=20) t2 o o⟩
 have a9:∀ j,Tx 80 (if j<sn then ls j else [48]):=fun j=>by
  refine (P7 (k:=8) ?_ o o).mono o
  split
  ·exact a1 j ‹_›
  ·decide
 refine B4 (fun b5=>?_) (fun b7=>?_)
 ·have V:k<l.length:=o
  obtain ⟨a,ea,ai,ao⟩:=Iu y3 V
  have e:l[k]=l.getD k ([],[]):=by rw [aD,aG V];rfl
  rw [e] at ai ao
  obtain ⟨t1,t2⟩:=tx V
  have push:∀ {h4:aF},h4=h3->wpH prog (bM 52 1 #[(0,.string (bs (atF l sn ls k)))]) (fun v ay=>∃ (t97A:Option aI) (t97n:Nat) (t97c:Nat),v= .slice t97A t97n t97c/\wpH prog (bX #[52,52] 52 #[.slice oA es.length oc,.slice t97A t97n t97c]) (fun v1 a8=>∃ (t98A:Option aI) (t98n:Nat) (t98c:Nat),v1= .slice t98A t98n t98c/\(∃ (k2:Nat) (A':Option aI) (c':Nat) (es:List (List UInt8)) (g:aF),[bK t98A t98n t98c,I (B7 ((k:Int)+1))]=[.slice A' es.length c',I (k2:Int)]/\k2<=l.length/\es.length=k2/\h2.le g/\PrivF a8 g 9 A' c' es/\∀ j,j<k2->es[j]? = some (atF l sn ls j))/\l.length-(iAt [bK t98A t98n t98c,I (B7 ((k:Int)+1))] 1).toNat<l.length-(iAt [bK oA es.length oc,I (k:Int)] 1).toNat) ay) h4:=by
   rintro _ rfl
   refine Md (ty:=52) R1 pr (y:=atF l sn ls k) rfl dc o o ?_
   intro A2 c2 h5 g2 l2 p2
   rw [B5 o o]
   refine ⟨⟨k+1,A2,c2,_,g2,by rw [aP];rfl,o,by rw [aP,bi];rfl,A0 lg l2,p2,fun j d=>?_⟩,by simp only [iAt,aR,aM];omega⟩
   by_cases ej:j=k
   ·subst ej
    rw [bJ o,bi,Nat.sub_self];rfl
   ·rw [cP o]
    exact bl j o
  refine B4 (fun bx=>?_) (fun bx=>?_)
  ·have F:k<sn:=o
   obtain ⟨b,eb,cb⟩:=(px.mono Uy W).sat F
   refine ⟨b,eb,o,o,_,cb,a,ea,o,o,_,_,ai,ao,?_⟩
   have st:=a9 k
   rw [iP F] at st
   refine Kq ac t1 t2 st o o ⟨_,rfl,?_⟩
   have ef:Mj (l.getD k ([],[])).1 (l.getD k ([],[])).2 (ls k)=atF l sn ls k:=by unfold atF;rw [iP F]
   rw [ef]
   exact push rfl
  ·have F: ¬ k<sn:=o
   refine ⟨a,ea,o,o,_,_,ai,ao,?_⟩
   have st:=a9 k
   rw [iN F] at st
   refine Kq (s:=[48]) ac t1 t2 st o o ⟨_,rfl,?_⟩
   have ef:Mj (l.getD k ([],[])).1 (l.getD k ([],[])).2 [48]=atF l sn ls k:=by unfold atF;rw [iN F]
   rw [ef]
   exact push rfl
 ·have V:k=l.length:=o
  have bj: ∀ j,j<l.length->es[j]? = some (atF l sn ls j):=fun j d=>bl j o
  have bb:es.length=l.length:=o
  rw [bb]
  have aq:RowV SSr h3 oA l.length (atF l sn ls):=⟨es,pr.sl,bb,fun j d=>⟨_,bj j d,rfl⟩⟩
  obtain ⟨xv,hxv⟩:∃ xv:Nat->Rat,∀ j,j<l.length->atF l sn ls j=C7 (xv j)/\(bxQ l j).1<=xv j/\xv j<=(bxQ l j).2:=
   ⟨fun j=>rv (atF l sn ls j),fun j d=>by
    obtain ⟨x,e1,e2,e3⟩:=A7i (sn:=sn) (ls:=ls) bo d
    show atF l sn ls j=C7 (rv (atF l sn ls j))/\_<=rv (atF l sn ls j)/\rv (atF l sn ls j)<=_
    rw [e1,C1];exact ⟨rfl,e2,e3⟩⟩
  have C:∀ j,j<l.length->(atF l sn ls j).length<=20:=fun j d=>A4r ht a1 d
  have a6:∀ j,j<l.length->rv (atF l sn ls j)=xv j:=fun j d=>by rw [(hxv j d).1,C1]
  have a3:∀ j,j<l.length->Sz 80 (rv (atF l sn ls j)):=fun j d=>Xa (k:=20) (C j d) o
  have b3:=pa.mono W
  have bf:∀ t,t<ts.length->∀ j,j<l.length->((tm ts t).2.getD j 0).toNat<=6:=fun t H j d=>by
   have:=(sm.exps t H j d).2
   omega
  have bq:∀ t,t<ts.length->Sz 3000 (tmV (tm ts t).2 (fun i=>rv (atF l sn ls i)) (rv (tm ts t).1) l.length):=fun t H=>by
   have:=A27 (p:=80) (D:=6) o (sm.coef t H) l.length (x:=fun i=>rv (atF l sn ls i)) (es:=(tm ts t).2) (fun j d=>a3 j d) (bf t H)
   exact this.mono o
  have ez:=A2t (n:=l.length) ts.length bq
  refine Ru (m:=32) (p:=80) (D:=6) ac b3 aq o o (fun t H=>by have:=X t H;omega) (fun j d=>by have:=C j d;omega) o sm.coef a3 o o o (fun t H j d=>by have:=N t H j d;omega) (fun _ _=>ez.mono o) (fun M=>absurd ⟨po,fun j d=>⟨xv j,(hxv j d).1⟩⟩ M) (fun _ M=>absurd bn M) (fun _ _ _ h4 af=>⟨_,_,rfl,H9 (fun e=>absurd rfl e) (fun _=>?_)⟩)
  have bm:=A0 W af
  have bd:=gl.mono bm
  obtain ⟨al,ae⟩:=sm.ev ts.length (aU _)
  have a7:=A2u (ts:=ts) (f:=bxQ l) (x:=fun i=>rv (atF l sn ls i)) (n:=l.length) (fun j d=>by
   show _<=rv (atF l sn ls j)/\rv (atF l sn ls j)<=_
   rw [a6 j d];exact (hxv j d).2) ts.length
  refine Ze (m:=400000) bd (al.mono o) (ae.mono o) (ez.mono o) o a7.1 a7.2 ⟨_,rfl,U1 ?_⟩
  refine Vb o o ?_
  intro w E
  obtain ⟨a5,br,c5⟩:=(aq.mono Uy af).sat E
  refine ⟨_,rfl,a5,br,o,o,_,by rw [aE];exact c5,?_⟩
  refine Sd bd (y.mono (A0 a0 af)) o ht (C w E) ?_
  obtain ⟨ex,ap,ab⟩:=hxv w E
  obtain ⟨p,q,eg,b8,eb⟩:=Lb bo E
  have a4:A7n l (w:Int) (atF l sn ls w):=by
   refine ⟨o,o,?_⟩
   rw [aE]
   show (bxQ l w).1<=_/\_<=(bxQ l w).2
   rw [a6 w E];exact ⟨ap,ab⟩
  intro l1 l2 e so A1 c1 A2 c2 h5 bz aj ah
  rcases so with ⟨M,_⟩|⟨_,_,M,_⟩|⟨_,_,_,rfl,rfl,rfl⟩
  ·exact absurd ⟨bo,xv w,ex⟩ M
  ·exact absurd a4 M
  refine ⟨_,_,_,_,_,_,_,rfl,?_⟩
  rw [aE,ex] at aj ah
  rw [aE,ex]
  obtain ⟨ar,a2⟩:=A0o bo E ap ab
  obtain ⟨bh,az⟩:=A0p bo E ap ab
  have aa:(C7 (xv w)).length<=20:=by rw [<- ex];exact C w E
  obtain ⟨tk1,tk2⟩:(l.getD w ([],[])).1.length<=20/\(l.getD w ([],[])).2.length<=20:=by
   have e:l.getD w ([],[])=l[w]:=by rw [aD,aG E];rfl
   rw [e];exact ht _ (aK E)
  have be:∀ x∈l.set w ((l.getD w ([],[])).1,C7 (xv w)),x.1.length<=20/\x.2.length<=20:=fun x hx=>by
   rcases aY hx with h|rfl
   ·exact ht x h
   ·exact ⟨tk1,aa⟩
  have bg:∀ x∈l.set w (C7 (xv w),(l.getD w ([],[])).2),x.1.length<=20/\x.2.length<=20:=fun x hx=>by
   rcases aY hx with h|rfl
   ·exact ht x h
   ·exact ⟨aa,tk2⟩
  obtain ⟨m1,em1⟩:∃ m1,m1=l.set w ((l.getD w ([],[])).1,C7 (xv w)):=⟨_,rfl⟩
  obtain ⟨m2,em2⟩:∃ m2,m2=l.set w (C7 (xv w),(l.getD w ([],[])).2):=⟨_,rfl⟩
  have b0:m1.length=l.length:=by rw [em1,aN]
  have bt:m2.length=l.length:=by rw [em2,aN]
  rw [<- em1] at aj ar a2 be ⊢
  rw [<- em2] at ah bh az bg ⊢
  have an:=A0 bm bz
  refine U4 (gl.mono an) (pa.mono an) aj am X N o be (fun M=>absurd ⟨po,ar⟩ M) (fun _ _ M=>absurd o M) (fun _ _ _ bw b9 ax=>⟨_,_,_,rfl,?_⟩)
  have ak:=A0 an ax
  refine U4 (gl.mono ak) (pa.mono ak) (ah.mono ax) am X N o bg (fun M=>absurd ⟨po,bh⟩ M) (fun _ _ M=>absurd o M) (fun _ _ _ b1 h7 bp=>⟨_,_,_,rfl,?_⟩)
  have ad:=A0 ak bp
  refine H9 (fun e=>absurd rfl e) (fun _=>H9 (fun e=>absurd rfl e) (fun _=>H9 (fun e=>absurd rfl e) (fun _=>?_)))
  have O:=bw.ev ts.length (aU _)
  have Q:=b1.ev ts.length (aU _)
  rw [b0] at O ⊢
  rw [bt] at Q ⊢
  have i1:=Yu (ts:=ts) (f:=bxQ m1) (f':=bxQ l) (n:=l.length) a2 ts.length
  have i2:=Yu (ts:=ts) (f:=bxQ m2) (f':=bxQ l) (n:=l.length) az ts.length
  have e1:=Ub ts (bxQ m1) l.length ts.length
  have e2:=Ub ts (bxQ m2) l.length ts.length
  have e3:=Ub ts (bxQ l) l.length ts.length
  generalize evE ts (bxQ m1) l.length ts.length=u1 at O i1 e1 ⊢
  generalize evE ts (bxQ m2) l.length ts.length=u2 at Q i2 e2 ⊢
  generalize evE ts (bxQ l) l.length ts.length=u at al ae i1 i2 e3 ⊢
  have T:∀ {z:Rat},Sz (1+ts.length*30785) z->Tx 400000 (C7 z):=fun hz=>Tx.of (hz.mono o) o
  refine A2p (gl.mono ad) (T O.1) (T O.2) (T Q.1) (T Q.2) o ?_
  rw [Mz e1 e2]
  refine ⟨_,_,_,rfl,?_⟩
  have bu:mn u1.1 u2.1<=mx u1.2 u2.2:=by
   have:=A1a u1.1 u2.1
   have:=A1c u1.2 u2.2
   grind
  refine A2p (gl.mono ad) (T (O.1.mn Q.1)) (T (O.2.mx Q.2)) (T al) (T ae) o ?_
  rw [Mz bu e3,A73 i1.1 i2.1,A48 i1.2 i2.2]
  refine ⟨_,_,_,rfl,E4 (fun _=>E4 (fun _=>?_) (fun e=>absurd rfl e)) (fun e=>absurd rfl e)⟩
  rw [Gz,Gz,decide_eq_true rfl,decide_eq_true rfl]
  exact Br.of (fun _=>aw h7 ad) (fun e=>by cases e)
end
def Xb:reachBytes=140737488351232:=dc
def wts_at{H:Type}{P:aW}{ts:List aO}{ds:List (DataW H)}(h:(DataW.weightsEach P ts ds).all (· <= reachBytes)=true){j:Nat}{t:aO}{d:DataW H}(ht:ts[j]? = some t)(hd:ds[j]? = some d):∀ n∈d.weights P t,n<=140737488351232:=by
 intro n a
 have:=List.all_eq_true.1 h _ (DataW.weights_mem_each ht hd n a)
 rw [<- Xb];simpa using this
def A56{H:Type}{P:aW}{t:aO}{f0 f1:Field}{a b:List UInt8}(u:P.underlying t=some (.struct #[f0,f1]))(h:∀ n∈(DataW.agg [.lit (.string a),.lit (.string b)]:DataW H).weights P t,n<=140737488351232):a.length<=140737488351232/\b.length<=140737488351232:=by
 simp only [DataW.weights,u,DataW.weightsEach,List.map_cons,List.map_nil,List.append_nil,List.cons_append,List.nil_append] at h
 exact ⟨h _ (by simp),h _ (by simp)⟩
def A31{H:Type}{P:aW}{e:aO}{d:DataW H}{n:Nat}(hn:n∈d.weights P e):∀ {l:List (DataW H)},d∈l->n∈DataW.weightsAll P e l:=by
 intro l
 induction l with
 | nil=>intro h;cases h
 | cons x l ih=>
  intro h
  rw [DataW.weightsAll]
  rcases List.mem_cons.1 h with rfl|h
  ·exact List.mem_append_left _ hn
  ·exact List.mem_append_right _ (ih h)
def A30{H:Type}{P:aW}{t e:aO}{es sp:List (DataW H)}(u:P.underlying t=some (.slice e))(h:∀ n∈(DataW.slice es sp).weights P t,n<=140737488351232):(es.length+sp.length)*P.bytesOf e<=140737488351232:=by
 simp only [DataW.weights,u] at h
 exact h _ (by simp)
def A57{H:Type}{P:aW}{t e:aO}{es sp:List (DataW H)}(u:P.underlying t=some (.slice e))(h:∀ n∈(DataW.slice es sp).weights P t,n<=140737488351232){d:DataW H}(hd:d∈es):∀ n∈d.weights P e,n<=140737488351232:=by
 intro n a
 simp only [DataW.weights,u] at h
 exact h _ (List.mem_cons_of_mem _ (List.mem_append_left _ (A31 a hd)))
end Go.Proofs.YtdphgbjaijlckaaGreatDoor
namespace Go.Proofs.YtdphgbjaijlckaaGreatDoor
set_option maxRecDepth 20000
open Go Go.RowKit
def Nl(s:ByteArray):bs s.data.toList=s:=by
 cases s;simp [bs]
def Cp:aX->List UInt8
 | .string s=>s.data.toList
 | _=>[]
def A5h{W:World}{a:aI}{n:Nat}{V0 V1:Nat->aX}(h:∀ i,i<n->(cQ W).cell? (a.add (i*2))=some (.string (bs (Cp (V0 i))))/\(cQ W).cell? (a.add (i*2+1))=some (.string (bs (Cp (V1 i))))):SlV (cQ W) (some a) (((aV n).map fun i=>((Cp (V0 i),Cp (V1 i)):Ivl)).flatMap F8):=by
 refine .inr ⟨a,rfl,fun k v c=>?_⟩
 have d:=Kr ((aV n).map fun i=>((Cp (V0 i),Cp (V1 i)):Ivl))
 rw [cO,cG] at d
 have r:k<n*2:=by
  by_cases q:k<n*2
  ·exact q
  ·rw [bF o] at c;cases c
 have l:k/2<n:=o
 have p:k%2<2:=Nat.mod_lt k dc
 have g:=Ph ((aV n).map fun i=>((Cp (V0 i),Cp (V1 i)):Ivl)) (i:=k/2) (by simpa using l) (j:=k%2) p
 rw [show k/2*2+k%2=k from o,List.getElem_map,List.getElem_range] at g
 rw [g] at c
 obtain ⟨c0,c1⟩:=h (k/2) l
 by_cases e:k%2=0
 ·rw [e] at c
  have b:(.string (bs (Cp (V0 (k/2)))):aX)=v:=bV c
  rw [<- b,show k=k/2*2 from o]
  rw [show k/2*2/2=k/2 from o]
  exact c0
 ·have m:k%2=1:=o
  rw [m] at c
  have b:(.string (bs (Cp (V1 (k/2)))):aX)=v:=bV c
  rw [<- b]
  have:=c1
  rw [show k/2*2+1=k from o] at this
  exact this
def Xr{H:Type}{enc:aO × aX->H}{P:aW}{W:World}{base:Nat}{sp:Nat->Bool}{held:Bool}{t e:aO}{fuel:Nat}{v:aX}{x:DataW H × List MemPlace}(ht:P.underlying t=some (.slice e))(he:P.underlying e=some (.int .i64))(hc:P.cellsOf e=1)
 (hf:DataW.trod enc P W base sp held fuel t [v]=some x):∃ (xs:List Int) (B:Option aI) (c:Nat),v= .slice B xs.length c/\SlI .i64 (cQ W) B xs:=by
 rcases ChangeShapes.open_ints ht he hc hf with ⟨b,_⟩|⟨a,l,c,zs,b,_,q,_,p,_,d,_⟩
 ·simp at b
  exact ⟨[],none,0,b,SlI.nil⟩
 ·simp at b
  have k:l<=zs.length:=by rw [p];split<;>omega
  refine ⟨zs.take l,some a,c,by rw [b,bL,cN k],.inr ⟨a,rfl,fun i w g=>?_⟩⟩
  rw [bB] at g
  have m:i<l:=by
   by_cases n:i<l
   ·exact n
   ·rw [bF (by rw [bL];omega)] at g;cases g
  rw [List.getElem?_take,iP m,aG o] at g
  have:=d i o
  rw [aD,aG o] at this
  have j:(.int .i64 zs[i]:aX)=w:=bV g
  rw [<- j]
  exact M0 this
def open_poly{H:Type}{enc:aO × aX->H}{P:aW}{W:World}{base:Nat}{sp:Nat->Bool}{held:Bool}{r:Reach}{b0:Nat}{t e q:aO}{f0 f1 g0 g1:Field}{v:aX}{d:DataW H}{ps:List MemPlace}(ht:P.underlying t=some (.struct #[f0,f1]))(u0:P.underlying f0.type=some (.int .i64))(u1:P.underlying f1.type=some (.slice e))(ue:P.underlying e=some (.struct #[g0,g1]))(w0:P.underlying g0.type=some .string)(w1:P.underlying g1.type=some (.slice q))(wq:P.underlying q=some (.int .i64))
 (hoff:(f0.offset=0/\f1.offset=1/\g0.offset=0/\g1.offset=1)/\P.cellsOf f0.type=1/\P.cellsOf f1.type=1/\P.cellsOf t=2/\P.cellsOf e=2/\P.cellsOf g0.type=1/\P.cellsOf g1.type=1/\P.cellsOf q=1)
 (hval:Value.okWide P W r b0 t v) (hd:DataW.Trod enc P W base sp held t v d ps):∃ (vars:Int) (A:Option aI) (cap:Nat) (ts:List H8),v= .agg #[.int .i64 vars,.slice A ts.length cap]/\cA (cQ W) A ts:=by
 obtain ⟨⟨o0,o1,p0,p1⟩,c0,c1,ct,ce,d0,V,cq⟩:=hoff
 obtain ⟨u,rfl,x⟩:=WideShapes.okWide_struct ht hval
 obtain ⟨Q,hf⟩:=hd
 obtain ⟨y0,y1,n,hx,hl,N,j⟩:=ChangeShapes.trod_struct2 ht hf
 rw [o0,c0] at N
 rw [o1,c1] at j
 obtain ⟨O,k,_,_⟩:=DataW.trod_int u0 N
 rw [ct] at x
 obtain ⟨z0,z1,hm⟩:∃ z0 z1,u.toList=[z0,z1]:=by
  have w:u.toList.length=2:=by simpa using x
  match h:u.toList,w with
  | [p,q],_=>exact ⟨p,q,rfl⟩
 simp only [Value.cells] at k j
 rw [hm] at k j
 simp at k j
 have g:u=#[z0,z1]:=by rw [<- Array.toArray_toList (xs:=u),hm]
 rcases Deep.open_slice_pairs u1 ue ce p0 p1 d0 V j with ⟨z,_⟩|⟨a,l,c,m,n',V0,V1,D0,D1,P0,P1,z,_,aa,_,G,_,b⟩
 ·simp at z
  exact ⟨O,none,0,[],by rw [g,k,z];rfl,fun i D=>by simp at D⟩
 ·simp at z
  have ab:l<=m:=by rw [G];split<;>omega
  obtain ⟨E,hE⟩:=Deep.choose_lt (α:=List Int × Option aI × Nat) (n:=l) (p:=fun i y=>V1 i= .slice y.2.1 y.1.length y.2.2/\SlI .i64 (cQ W) y.2.1 y.1) (fun i D=>by
   obtain ⟨xs,B,S,C,R⟩:=Xr w1 wq cq (b i o).2.2.2
   exact ⟨(xs,B,S),C,R⟩)
  refine ⟨O,some a,c,(aV l).map fun i=>(Cp (V0 i),(E i).1),by rw [g,k,z];simp,fun i D=>?_⟩
  have s:i<l:=by simpa using D
  obtain ⟨M,C,F,_⟩:=b i o
  obtain ⟨t0,L,_,_⟩:=DataW.trod_string w0 F
  simp at L
  obtain ⟨h3,T⟩:=hE i s
  have X:tm ((aV l).map fun i=>(Cp (V0 i),(E i).1)) i=(Cp (V0 i),(E i).1):=by
   show ((aV l).map fun i=>(Cp (V0 i),(E i).1)).getD i ([],[])=_
   rw [aD,bB,bY s]
   rfl
  rw [X]
  rw [L] at M
  rw [h3] at C
  refine ⟨a,(E i).2.1,(E i).2.2,rfl,?_,?_,T⟩
  ·rw [L,R8]
   show _=some (bZ (bs t0.data.toList))
   rw [Nl]
   exact M0 M
  ·rw [R8]
   exact M0 C
end Go.Proofs.YtdphgbjaijlckaaGreatDoor
namespace Go.Proofs.YtdphgbjaijlckaaGreatDoor
set_option maxRecDepth 20000
open Go Go.RowKit
def open_strX{H:Type}{enc:aO × aX->H}{P:aW}{W:World}{base:Nat}{sp:Nat->Bool}{held:Bool}{t e:aO}{fuel:Nat}{A:Option aI}{len cap:Nat}{x:DataW H × List MemPlace}(ht:P.underlying t=some (.slice e))(he:P.underlying e=some .string)(hc:P.cellsOf e=1)
 (hf:DataW.trod enc P W base sp held fuel t [.slice A len cap]=some x):∃ ls:Nat->List UInt8,RowV SSr (cQ W) A len ls:=by
 rcases Deep.open_strs ht he hc hf with ⟨b,_⟩|⟨a,l,c,m,Sx,b,_,r,q,k,_,d⟩
 ·simp at b
  obtain ⟨rfl,rfl,rfl⟩:=b
  exact ⟨fun _=>[],RowV.nil⟩
 ·simp at b
  obtain ⟨rfl,rfl,rfl⟩:=b
  have p:len<=m:=by rw [k];split<;>omega
  refine ⟨fun i=>(Sx i).data.toList,(aV len).map fun i=>(Sx i).data.toList,?_,by simp,fun i j=>⟨_,by rw [bB,bY j];rfl,rfl⟩⟩
  have n:((aV len).map fun i=>(Sx i).data.toList).flatMap Go.Proofs.YtdphgbjaijlckaaGreatDoor.enc=((aV len).map fun i=>(Sx i).data.toList).map fun l=>bZ (bs l):=by
   generalize ((aV len).map fun i=>(Sx i).data.toList)=ys
   induction ys with
   | nil=>rfl
   | cons y l ih=>rw [List.flatMap_cons,ih];rfl
  show SlV (cQ W) (some a) (((aV len).map fun i=>(Sx i).data.toList).flatMap Go.Proofs.YtdphgbjaijlckaaGreatDoor.enc)
  rw [n]
  refine .inr ⟨a,rfl,fun i v g=>?_⟩
  rw [bB,bB] at g
  by_cases j:i<len
  ·rw [bY j] at g
   simp only [Option.map_some,Option.some.injEq,Nl] at g
   rw [<- g]
   exact M0 (d i o).1
  ·rw [bF (by simpa using j)] at g;cases g
end Go.Proofs.YtdphgbjaijlckaaGreatDoor
namespace Go.Proofs.YtdphgbjaijlckaaGreatDoor
set_option maxRecDepth 20000
open Go Go.RowKit
def open_ivsZ{H:Type}{enc:aO × aX->H}{P:aW}{W:World}{base:Nat}{sp:Nat->Bool}{held:Bool}{t e:aO}{f0 f1:Field}{fuel:Nat}{A:Option aI}{len cap:Nat}{x:DataW H × List MemPlace}(ht:P.underlying t=some (.slice e))(he:P.underlying e=some (.struct #[f0,f1]))(u0:P.underlying f0.type=some .string)(u1:P.underlying f1.type=some .string)
 (hoff:(f0.offset=0/\f1.offset=1)/\P.cellsOf e=2/\P.cellsOf f0.type=1/\P.cellsOf f1.type=1)
 (hb:P.bytesOf e=32) (hf:DataW.trod enc P W base sp held fuel t [.slice A len cap]=some x) (hw:∀ n∈x.1.weights P t,n<=140737488351232):∃ l:List Ivl,len=l.length/\SlV (cQ W) A (l.flatMap F8)/\l.length<=4398046510976/\∀ y∈l,y.1.length<=140737488351232/\y.2.length<=140737488351232:=by
 obtain ⟨⟨N,G⟩,O,c0,c1⟩:=hoff
 rcases Deep.open_slice_pairs ht he O N G c0 c1 hf with ⟨d,_⟩|⟨a,l,c,m,n,V0,V1,D0,D1,P0,P1,d,_,Q,_,p,M,b⟩
 ·simp at d
  obtain ⟨rfl,rfl,rfl⟩:=d
  exact ⟨[],rfl,SlV.nil,Nat.zero_le _,fun y w=>by cases w⟩
 ·simp at d
  obtain ⟨rfl,rfl,rfl⟩:=d
  have L:len<=m:=by rw [p];split<;>omega
  rw [M] at hw
  refine ⟨(aV len).map fun i=>(Cp (V0 i),Cp (V1 i)),by simp,A5h fun i E=>?_,?_,fun y w=>?_⟩
  ·obtain ⟨q,k,s,u⟩:=b i o
   obtain ⟨B,g,_,_⟩:=DataW.trod_string u0 s
   obtain ⟨D,j,_,_⟩:=DataW.trod_string u1 u
   simp at g j
   rw [g] at q
   rw [j] at k
   rw [g,j]
   show _=some (bZ (bs B.data.toList))/\_=some (bZ (bs D.data.toList))
   rw [Nl,Nl]
   exact ⟨M0 q,M0 k⟩
  ·rw [cO,cG]
   have k:=A30 ht hw
   rw [hb,cO,cG] at k
   omega
  ·obtain ⟨i,E,rfl⟩:=List.mem_map.1 w
   have r:i<len:=by simpa using E
   obtain ⟨q,k,s,u⟩:=b i o
   obtain ⟨B,g,C,_⟩:=DataW.trod_string u0 s
   obtain ⟨D,j,z,_⟩:=DataW.trod_string u1 u
   simp at g j C z
   have F:=A57 ht hw (List.mem_map.2 ⟨i,List.mem_range.2 r,rfl⟩)
   rw [C.1,z.1] at F
   rw [g,j]
   exact A56 he F
