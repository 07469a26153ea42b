/- A part. -/
import Derived.Test.YtdphgbjaijlckaaGreatDoorG19
import Derived.Test.YtdphgbjaijlckaaGreatDoorG23
open Go.Proofs.Tryz
set_option linter.all false
open _root_.Go.Addr renaming add->aC
open _root_.Go.Addr.mk renaming injEq->aU
open _root_.Go.Builtin renaming append_->aZ,copy_->dH
open _root_.Go.Instr renaming storeAt->aS,buildSlice->bN
open Int renaming toNat_natCast->aQ,mul_le_mul_of_nonneg_left->bO,pow_pos->bX,natCast_mul->cG,le_of_lt->cR,gcd->dB,mul_nonneg->dF,eq_ofNat_of_zero_le->dI,mul_zero->dL,add_zero->dM
open List renaming replicate->aE,getD_eq_getElem?_getD->aJ,length_replicate->aK,getElem?_eq_getElem->aM,take_append_drop->aV,getElem?_eq_none->aW,length_append->bC,getElem?_replicate->bG,toArray->bJ,getElem?_map->bK,getElem?_toArray->bL,append_assoc->bW,getElem?_cons_zero->bY,getElem?_cons_succ->bZ,take_of_length_le->cF,getElem?_set_ne->cL,take_append_of_le_length->cW,getElem?_append_right->dE,getElem?_append_left->dG,getElem?_set_self->dJ,drop_of_length_le->dK
open List.cons renaming injEq->cZ
open Nat renaming le_refl->aH,mul_le_mul_right->aI,zero_add->aL,div_lt_of_lt_mul->aX,le_trans->aY,add_mul->bF,le_mul_of_pos_left->bI,div_eq_of_lt->bM,mul_comm->bU,add_zero->cD,zero_le->cJ,mul_le_mul->cK,lt_irrefl->cM,add_comm->cQ,mod_eq_of_lt->cU,one_mul->cV,mul_add_div->cX,div_le_self->cY,mod_lt->dC,add_mul_mod_self_right->dD
open Option.some renaming injEq->aP
open Rat renaming intCast_mul->aT,divInt->bB,add_zero->bH,divInt_eq_div->bV,mul_zero->cC,div_def->cI,mul_comm->cP
open _root_.Go.Value renaming string->aF,cells->bD
open _root_.Go.Value.bool renaming injEq->cT
open _root_.Go.Value.slice renaming injEq->cN
open _root_.Go renaming Addr->aG,TypeId->aO,Value->aR,Program->cH
open _root_.Go.Proofs.YtdphgbjaijlckaaGreatDoor renaming Heap->aD,FCall->aN,SliceT->cO,IsNum->dA
namespace Go.Proofs.YtdphgbjaijlckaaGreatDoor
set_option maxRecDepth 20000
open Go
section
set_option maxRecDepth 100000
variable {h:aD} {K:VP}
end
section
variable {h g:aD} {K:VP} {A B:Option aG} {s s':Bool} {an ac bn bc m:Nat} {x y:Int}
end
def Vy(B:Int):∀ {ts:List Int} {k:Nat} (_:k<ts.length) (v:Int),val B (ts.set k v)=val B ts+B^k*(v-ts.getD k 0)
 | [],k,h,v=>by simp at h
 | t::ts,0,h,v=>by simp [val];grind
 | t::ts,k+1,h,v=>by
  have ih:=Vy B (ts:=ts) (k:=k) gz0 v
  simp only [List.set_cons_succ,val,List.getD_cons_succ,ih,Int.pow_succ]
  grind
section
variable {h g:aD} {K:VP} {A B:Option aG} {s s':Bool} {an ac bn bc m:Nat} {x y:Int}
def Tp{hp:aD}{n c k:Nat}{ts:List Int}{ca:Int}(p:Pw hp g A n c ts)(hn:n=ts.length)(dt:Dig b64 ts)(hk:k<n)(hca:0<=ca/\ca<18446744073709551616){Q:Int->aD->Prop}
 (hQ:∀ h' ts',Pw h' g A n c ts'->n=ts'.length->Dig b64 ts'->val b64 ts'+b64^(k+1)*((ts.getD k 0+ca)/18446744073709551616)=val b64 ts+b64^k*ca->Q ((ts.getD k 0+ca)/18446744073709551616) h'):
 ∃ a,A=some a/\0<=(k:Int)/\(k:Int)<((n:Nat):Int)/\∃ (t:Int),Heap.cell? hp (aC a (((k:Int)).toNat*1))=some (U t)/\ECall prog 274 #[U t,U ca,U (0:Int)] hp (fun r hp1=>∃ (ta tb:Int),r= .tuple #[U ta,U tb]/\∃ a2,A=some a2/\0<=(k:Int)/\(k:Int)<((n:Nat):Int)/\wpH prog (aS 230 (.pointer (some (aC a2 (((k:Int)).toNat*1)))) (U ta)) (fun _ hp2=>Q tb hp2) hp1):=by
 have d:ts≠[]:=gz0
 obtain ⟨b,j,w,u⟩:=Y8 p d
 have s:=J3 dt k
 refine w.sl.load hn o o ?_
 refine U4 s hca o ⟨_,_,rfl,?_⟩
 obtain ⟨a,l,_⟩:=SlV.at w.sl (i:=k) gz0
 refine ⟨a,l,o,o,w.storeN E6 l o ?_⟩
 intro q e
 simp only [dM] at e ⊢
 have f:=e.priv (m:=n) (c:=c) (by simp_all) gz0 gz0
 rw [cF gz0] at f
 refine hQ q _ f gz0 (dt.set (W6 _)) ?_
 rw [Vy b64 o,Int.pow_succ]
 grind
def Zr{Invv1:LP}{muv1:LN}{TA:Option aG}{tn tc i x2n:Nat}{ts:List Int}{ca:Int}{hp8 hp7:aD}(p:Pw hp8 g TA tn tc ts)(hn:tn=ts.length)(dt:Dig b64 ts)(hle:i+x2n<=tn)(hca:0<=ca/\ca<18446744073709551616)(hl:tn<=1000000000)
 (hK:∀ TA' tn' tc' ts' h' g',g.le g'->Pw h' g' TA' tn' tc' ts'->tn'=ts'.length->Dig b64 ts'->val b64 ts'=val b64 ts+b64^(i+x2n)*ca->(tn'=tn\/(tn'=tn+1/\b64^tn<=val b64 ts'))->Invv1 [.slice TA' tn' tc',I (B7 ((i:Int)+1))] h'/\muv1 [.slice TA' tn' tc',I (B7 ((i:Int)+1))] h'<muv1 [.slice TA tn tc,I (i:Int)] hp7):
 V1 prog x2n Invv1 muv1 TA tn tc (i:Int) ca hp8 hp7:=by
 unfold V1
 have X:B7 ((i:Int)+(x2n:Int))=((i+x2n:Nat):Int):=by rw [B6 o o];omega
 rw [X]
 refine ⟨fun L T=>∃ (k:Nat) (c1:Int) (j:List Int) (A1:Option aG) (a b:Nat) (t:aD),L=[.slice A1 a b,U c1,I k]/\g.le t/\Pw T t A1 a b j/\a=j.length/\Dig b64 j/\k<=a/\(0<=c1/\c1<18446744073709551616)/\val b64 j+b64^k*c1=val b64 ts+b64^(i+x2n)*ca/\(a=tn\/(a=tn+1/\c1=0/\b64^tn<=val b64 j)),fun L _=>tn+2-(iAt L 2).toNat,⟨i+x2n,ca,ts,TA,tn,tc,g,rfl,B3 _,p,hn,dt,hle,hca,rfl,.inl rfl⟩,?_⟩
 rintro A1 a b c1 k0 aa ⟨k,O,j,A1',ab,C,t,R,z,F,q,s,hk,d,hv,V⟩
 obtain ⟨⟨rfl,rfl,rfl⟩,rfl,rfl⟩:=R
 refine K8 (fun N=>?_) (fun N=>?_)
 ·have e:a=tn:=by
   omega
  have E:B7 ((k:Int)+1)=((k+1:Nat):Int):=by rw [B6 o o];omega
  have r:∀ (A H D G:aR),tn+2-(iAt [A,H,I ((k+1:Nat):Int)] 2).toNat<tn+2-(iAt [D,G,I (k:Int)] 2).toNat:=by
   intro A H D G
   simp only [iAt,bY,bZ]
   omega
  refine D5 (fun x=>?_) (fun x=>?_)
  ·have n:k=a:=o
   refine U6 K0 F rfl rfl o o ?_
   intro A2 c2 h2 Q l2 y
   rw [<- List.map_singleton (f:=Value.int .u64),<- List.map_append] at y
   have M:Dig b64 (j++[0]):=s.append (Dig.one dc)
   refine Tp y gz0 M o d ?_
   intro W m u l w c
   have S:(j++[0]).getD k 0=0:=by
    rw [n,q,List.getD,dE (aH _)];simp
   rw [S,Int.zero_add,Int.ediv_eq_zero_of_lt d.1 d.2] at c ⊢
   rw [E]
   rw [D8,dL,dM,dL,dM] at c
   refine ⟨⟨k+1,0,m,A2,a+1,c2,Q,rfl,A0 z l2,u,l,w,o,o,?_,.inr ⟨o,rfl,?_⟩⟩,r _ _ _ _⟩
   ·omega
   ·rw [c,<- e,<- n]
    have h5:=C3 (B:=b64) dc s
    have h6:b64^k*1<=b64^k*c1:=bO o (cR (bX dc))
    omega
  ·refine Tp F q s o d ?_
   intro W m u l w c
   rw [E]
   have gt:=J3 s k
   refine ⟨⟨k+1,_,m,A1,a,b,t,rfl,z,u,l,w,o,?_,?_,.inl e⟩,r _ _ _ _⟩
   ·omega
   omega
 grind
def A1v{XA YA TA:Option aG}{xs ys ts:List Int}{x2n x2c y2n tn tc N:Nat}{hp4:aD}(p:Pw hp4 g TA tn tc ts)(hn:tn=ts.length)(dt:Dig b64 ts)(sx:SlI .u64 g XA xs)(hx:x2n=xs.length)(dx:Dig b64 xs)(sy:SlI .u64 g YA ys)(hy:y2n=ys.length)(dy:Dig b64 ys)(hxy:x2n+y2n<=tn)(hN:tn<=N)(hN2:N<=400000000)(hV:val b64 ts+val b64 xs*val b64 ys<b64^N)
 (hK:∀ TA' tn' tc' ts' h' g',g.le g'->Pw h' g' TA' tn' tc' ts'->tn'=ts'.length->Dig b64 ts'->val b64 ts'=val b64 ts+val b64 xs*val b64 ys->tn'<=N->K (.slice TA' tn' tc') h'):
 Fe prog K XA x2n x2c YA y2n TA tn tc hp4:=by
 have M:=C3 (B:=b64) dc dx
 have i:∀ k,val b64 (ys.take k)<=val b64 ys:=by
  intro k
  have C:=F0 b64 (ys.take k) (ys.drop k)
  rw [aV] at C
  have h2:0<=b64^(ys.take k).length*val b64 (ys.drop k):=dF (cR (bX dc)) (C3 (B:=b64) dc (dy.drop k))
  omega
 refine ⟨fun L hp=>∃ (k:Nat) (a:List Int) (A1:Option aG) (j d:Nat) (F:aD),L=[.slice A1 j d,I k]/\g.le F/\Pw hp F A1 j d a/\j=a.length/\Dig b64 a/\k<=y2n/\val b64 a=val b64 ts+val b64 xs*val b64 (ys.take k)/\x2n+y2n<=j/\j<=N,fun L _=>y2n-(iAt L 1).toNat,⟨0,ts,TA,tn,tc,g,rfl,B3 _,p,hn,dt,o,by simp [val],hxy,hN⟩,?_⟩
 rintro A1 j d k0 ae ⟨k,a,A1',af,S,F,hL,x,T,aa,s,hk,hv,ac,Q⟩
 obtain ⟨⟨rfl,rfl,rfl⟩,rfl⟩:=hL
 refine B5 (fun C=>?_) (fun C=>?_)
 ·have gy:=J3 dy k
  have vy:=C2 b64 ys k
  have V:B7 ((k:Int)+(x2n:Int))=((k+x2n:Nat):Int):=by rw [B6 o o];omega
  refine (sy.mono (A0 x T.le)).load hy o o ?_
  have t:a≠[]:=gz0
  obtain ⟨b,W,w,hc⟩:=Y8 T t
  refine ⟨⟨o,o⟩,⟨o,o⟩,?_⟩
  have f:((a.drop k).take (k+x2n-k)).length=xs.length:=gz0
  refine Bz (w.sub (l:=k) (m:=k+x2n) (c:=d) o o o) o (sx.mono x) hx ((s.drop k).take _) dx f gy o ?_
  intro r c h' e q A y w'
  rw [f] at e y
  have w2:=w.whole (l:=k) (m:=k+x2n) o o o w'
  refine ⟨_,rfl,?_⟩
  have ad:(a.take k++r++a.drop (k+x2n)).length=a.length:=by
   grind
  have n:a.take k++r++a.drop (k+x2n)≠[]:=by
   grind
  have O:=w2.priv (m:=j) (c:=d) n o o
  rw [cF o] at O
  have d2:Dig b64 (a.take k++r++a.drop (k+x2n)):=((s.take k).append q).append (s.drop _)
  have H:a=a.take k++((a.drop k).take (k+x2n-k)++a.drop (k+x2n)):=by
   have V:a.drop (k+x2n)=(a.drop k).drop (k+x2n-k):=by simp_all
   rw [V,aV,aV]
  have z:val b64 (a.take k++r++a.drop (k+x2n))+b64^(k+x2n)*c=val b64 a+b64^k*(val b64 xs*ys.getD k 0):=by
   have e2:val b64 a=val b64 (a.take k)+b64^k*(val b64 ((a.drop k).take (k+x2n-k))+b64^xs.length*val b64 (a.drop (k+x2n))):=by
    conv=>lhs;rw [H]
    rw [F0,F0,f,List.length_take,Nat.min_eq_left o]
   rw [e2,bW,F0,F0,List.length_take,Nat.min_eq_left o,e,hx,Int.pow_add]
   generalize b64^k=P at *
   generalize b64^xs.length=R at *
   grind
  refine Zr O o d2 o A o ?_
  intro TA' tn' tc' ts' h3 g3 l3 X D d3 ab G
  have u:val b64 ts'=val b64 ts+val b64 xs*val b64 (ys.take (k+1)):=by
   grind
  have E:tn'<=N:=by
   rcases G with h4|⟨h4,h5⟩
   ·omega
   ·have h6:=bO (i (k+1)) M
    grind
  have e3:B7 ((k:Int)+1)=((k+1:Nat):Int):=by rw [B6 o o];omega
  rw [e3]
  exact ⟨⟨k+1,ts',TA',tn',tc',g3,rfl,A0 x l3,X,D,d3,o,u,o,E⟩,by simp only [iAt,bY,bZ];omega⟩
 grind
def Cb{TA XA YA:Option aG}{ts:List Int}{tn tc xn xc yn yc N:Nat}(p:Pw h g TA tn tc ts)(hn:tn=ts.length)(dt:Dig b64 ts)(ma:Mw g XA xn x)(mb:Mw g YA yn y)(hxc:xn<=xc)(hyc:yn<=yc)(hN:tn<=N)(hxy:xn+yn+1<=N)(hN2:N<=400000000)(hV:val b64 ts+x*y<b64^N)
 (hK:∀ TA' tn' tc' ts' h' g',g.le g'->Pw h' g' TA' tn' tc' ts'->tn'=ts'.length->Dig b64 ts'->val b64 ts'=val b64 ts+x*y->tn'<=N->K (.slice TA' tn' tc') h'):aN prog 255 #[.slice TA tn tc,.slice XA xn xc,.slice YA yn yc] h K:=by
 refine Jp _ _ _ _ _ _ _ _ _ ?_
 refine ⟨fun L E=>E=h/\∃ (A1 B1:Option aG) (d c1 i c2:Nat) (j a:Int),L=[.slice A1 d c1,.slice B1 i c2]/\Mw g A1 d j/\Mw g B1 i a/\d<=c1/\i<=c2/\d+i=xn+yn/\j*a=x*y,B5 (fun _=>⟨rfl,_,_,_,_,_,_,y,x,rfl,mb,ma,hyc,hxc,oo,Int.mul_comm _ _⟩) (fun _=>⟨rfl,_,_,_,_,_,_,x,y,rfl,ma,mb,hxc,hyc,rfl,rfl⟩),?_⟩
 rintro A1 d c1 B1 i c2 E ⟨rfl,A1',B1',ac,aj,ad,af,j,a,A,V,D,k1,k2,am,z⟩
 obtain ⟨⟨rfl,rfl,rfl⟩,rfl,rfl,rfl⟩:=A
 have aa:=D.nonneg dc
 refine ⟨fun L r=>∃ (A2 B2:Option aG) (e R k c4:Nat) (H y2:Int) (l:aD),L=[.slice A2 e R,.slice B2 k c4]/\g.le l/\Pw r l TA tn tc ts/\Mw l A2 e H/\Mw l B2 k y2/\e+k<=xn+yn+1/\H*y2=x*y,B5 (fun _=>?_) (fun _=>⟨_,_,_,_,_,_,j,a,g,rfl,B3 _,p,V,D,oo,z⟩),?_⟩
 ·refine p.call ?_
  refine F5 V D k1 k2 oo oo ?_
  intro A3 e R g3 l3 k3 M3 h3 p3
  refine ⟨_,_,_,rfl,?_⟩
  refine N9 K0 rfl ?_
  intro b F
  have t:g3 b=none:=by
   cases hx1:g3 b with
   | none=>rfl
   | some o=>rw [p3.le b o hx1] at F;cases F
  refine ⟨_,_,_,rfl,_,_,_,_,_,_,j*a,1,g3.put b (.cells #[U 1] 230),rfl,A0 l3 (Heap.le_put _ t),p3.put F _,M3.mono (Heap.le_put _ t),?_,?_,oo⟩
  ·refine ⟨[1],rfl,SlI.new _ _ _ _ _,?_,?_,?_⟩
   ·intro x hx;grind
   ·unfold Norm;simp
   rfl
  ·have s:=V.lt dc
   have C:=D.lt dc
   have O:j*a<b64^(d+i):=by
    rw [Int.pow_add]
    by_cases h0:a=0
    ·subst h0
     rw [dL]
     exact Int.mul_pos (bX dc) (bX dc)
    ·have h1:j*a<b64^d*a:=Int.mul_lt_mul_of_pos_right s oo
     have h2:b64^d*a<=b64^d*b64^i:=bO (cR C) (cR (bX dc))
     omega
   have:=M3.len_le dc O
   omega
 rintro A2 e R B2 k c4 r ⟨A2',B2',ak,an,ai,ae,H,y2,l,A,lg,p1,M1,M2,al,u⟩
 obtain ⟨⟨rfl,rfl,rfl⟩,rfl,rfl,rfl⟩:=A
 obtain ⟨xs,M,sx,dx,nx,rfl⟩:=M1
 obtain ⟨ys,W,sy,dy,ny,rfl⟩:=M2
 have e1:B7 ((e:Int)+(k:Int))=((e+k:Nat):Int):=by rw [B6 oo oo];omega
 refine ⟨fun L E=>∃ (m:List Int) (A5:Option aG) (q c5:Nat) (S:aD),L=[.slice A5 q c5]/\l.le S/\Pw E S A5 q c5 m/\q=m.length/\Dig b64 m/\val b64 m=val b64 ts/\q<=N,fun L _=>match L with|[.slice _ n _]=>e+k-n|_=>0,⟨ts,TA,tn,tc,l,rfl,B3 _,p1,hn,dt,rfl,hN⟩,?_⟩
 rintro A5 q c5 ab ⟨m,A5',ah,ag,S,A,c,p5,T,du,w,G⟩
 obtain ⟨rfl,rfl,rfl⟩:=A
 refine B5 (fun h1=>?_) (fun h1=>?_)
 ·refine U6 K0 p5 rfl rfl oo oo ?_
  intro A6 c6 h6 g6 l6 p6
  rw [<- List.map_singleton (f:=Value.int .u64),<- List.map_append] at p6
  refine ⟨⟨m++[0],A6,q+1,c6,g6,rfl,A0 c l6,p6,gz0,du.append (Dig.one dc),by rw [D8,w];simp,oo⟩,?_⟩
  grind
 ·refine A1v (N:=N) p5 T du (sx.mono c) M dx (sy.mono c) W dy oo G hN2 oo ?_
  intro TA' tn' tc' ts' h' g' l' p' Q d' B X
  rw [w,u] at B
  exact hK TA' tn' tc' ts' h' g' (A0 lg (A0 c l')) p' Q d' B X
def SumS(h g:aD)(b:Nat)(e:aO)(N:Nat)(M v:Int):Prop:=∃ (PA NA:Option aG) (pn pc nn nc:Nat) (ps ns:List Int) (g1 g2:aD),Pw g1 g PA pn pc ps/\Pw g2 g1 NA nn nc ns/\g2 b=none/\h=g2.put b (.cells #[.slice PA pn pc,.slice NA nn nc] e)/\pn=ps.length/\nn=ns.length/\Dig b64 ps/\Dig b64 ns/\v=val b64 ps-val b64 ns/\pn<=N/\nn<=N/\val b64 ps+val b64 ns<=M
def SumS.le{b:Nat}{e:aO}{N:Nat}{M v:Int}(S:SumS h g b e N M v):g.le h:=by
 obtain ⟨PA,NA,k,p,n,l,i,m,j,f,a,c,d,rfl,_⟩:=S
 exact A0 a.le (A0 c.le (Heap.le_put _ d))
def SumS.zero{b:Nat}{e:aO}{N:Nat}(hb:g b=none):SumS (g.put b (.cells #[.slice none 0 0,.slice none 0 0] e)) g b e N 0 0:=
 ⟨none,none,0,0,0,0,[],[],g,g,Priv.nil _ _ _ _,Priv.nil _ _ _ _,hb,rfl,rfl,rfl,Dig.nil,Dig.nil,o,o,o,by simp [val]⟩
def Cj:prog.cellsOf 89=1/\(prog.info? 89).isSome=true:=by constructor<;>kernel_rfl
def An{b:Nat}{e:aO}{N:Nat}{M v:Int}{N1:Nat}(S:SumS h g b e N M v)(i:ZI g s A an ac x)(j:ZI g s' B bn bc y)(hab:an+bn+1<=N)(hN2:N<=400000000)(hM:M+(x*y).natAbs<b64^N1)(hN1:N1<=N)
 (hK:∀ h' g',g.le g'->SumS h' g' b e N (M+(x*y).natAbs) (v+x*y)->K (.tuple #[]) h'):aN prog 220 #[.pointer (some ⟨b,0,none⟩),.agg #[.bool s,.slice A an ac],.agg #[.bool s',.slice B bn bc]] h K:=by
 have ad:=i.zeroIff
 have ae:=j.zeroIff
 have c1:=V8 i.sgn
 have c2:=V8 j.sgn
 refine (fnk func220 (own:=[4,5]) (wr:=[255])) ?_
 have n:x*y=0->K (.tuple #[]) h:=by
  intro D
  refine hK h g (B3 _) ?_
  grind
 refine D5 (fun D=>n gz0) (fun _=>D5 (fun D=>n gz0) (fun _=>?_))
 obtain ⟨PA,NA,pn,pc,nn,nc,ps,W,g1,g2,E,T,X,rfl,z,m,dp,Q,hv,w,C,V⟩:=S
 have af:=C3 (B:=b64) dc dp
 have ag:=C3 (B:=b64) dc Q
 have ah:b64^N1<=b64^N:=C7 dc hN1
 have D:(aC ⟨b,0,none⟩ 0)=⟨b,0,none⟩:=Ae b 0 0
 have e1:(aC ⟨b,0,none⟩ 1)=⟨b,1,none⟩:=Ae b 0 1
 refine Br.of (fun hs=>?_) (fun hs=>?_)
 ·have ab:x*y= -((x.natAbs:Int)*(y.natAbs:Int)):=by
   grind
  refine ⟨_,rfl,_,_,_,by rw [e1,D6];rfl,?_⟩
  refine FCall.frame (K:=fun r O=>∃ (TA':Option aG) (c d:Nat) (a:List Int) (g':aD),r= .slice TA' c d/\g1.le g'/\Pw O g' TA' c d a/\c=a.length/\Dig b64 a/\val b64 a=val b64 W+(x.natAbs:Int)*(y.natAbs:Int)/\c<=N) X (Cb (N:=N) T m Q (i.mag.mono E.le) (j.mag.mono E.le) i.cap j.cap C hab hN2 o (fun TA' c d a h' g' t u k q l f=>⟨TA',c,d,a,g',rfl,t,u,k,q,l,f⟩)) ?_
  ·rintro r H p ⟨TA',c,d,a,g',rfl,t,u,k,q,l,f⟩
   refine ⟨_,_,_,rfl,_,rfl,?_⟩
   refine V7 Cj.1 Cj.2 rfl rfl (by simp) ?_
   obtain ⟨R,L,F⟩:=E.after t
   refine hK _ R L ⟨PA,TA',pn,pc,c,d,ps,a,g',H,F,u,p,rfl,z,k,dp,q,?_,w,f,?_⟩
   ·omega
   omega
 ·have aa:x*y=(x.natAbs:Int)*(y.natAbs:Int):=by
   grind
  obtain ⟨g4,p4,G⟩:=T.swap E
  refine ⟨_,rfl,_,_,_,by rw [D,D6];rfl,?_⟩
  refine FCall.frame (K:=fun r O=>∃ (TA':Option aG) (c d:Nat) (a:List Int) (g':aD),r= .slice TA' c d/\g4.le g'/\Pw O g' TA' c d a/\c=a.length/\Dig b64 a/\val b64 a=val b64 ps+(x.natAbs:Int)*(y.natAbs:Int)/\c<=N) X (Cb (N:=N) p4 z dp (i.mag.mono G.le) (j.mag.mono G.le) i.cap j.cap w hab hN2 o (fun TA' c d a h' g' t u k q l f=>⟨TA',c,d,a,g',rfl,t,u,k,q,l,f⟩)) ?_
  ·rintro r H p ⟨TA',c,d,a,g',rfl,t,u,k,q,l,f⟩
   refine ⟨_,_,_,rfl,_,rfl,?_⟩
   refine V7 Cj.1 Cj.2 rfl rfl (by simp) ?_
   obtain ⟨R,L,F⟩:=G.after t
   obtain ⟨g6,p6,p7⟩:=u.swap F
   refine hK _ R L ⟨TA',NA,c,d,nn,nc,a,W,g6,H,p7,p6,p,rfl,k,m,q,Q,?_,f,C,?_⟩
   ·omega
   omega
def Gy{b:Nat}{e:aO}{N:Nat}{M v:Int}{N1:Nat}(S:SumS h g b e N M v)(i:ZI g s A an ac x)(j:ZI g s' B bn bc y)(hab:an+bn+1<=N)(hN2:N<=400000000)(hM:M+(x*y).natAbs<b64^N1)(hN1:N1<=N)
 (hK:∀ h' g',g.le g'->SumS h' g' b e N (M+(x*y).natAbs) (v-x*y)->K (.tuple #[]) h'):aN prog 254 #[.pointer (some ⟨b,0,none⟩),.agg #[.bool s,.slice A an ac],.agg #[.bool s',.slice B bn bc]] h K:=by
 refine (fnk func254 (os:=[(1,[0,1,3,2,4])]) (own:=[4,5]) (wr:=[220])) ?_
 refine S7 (i.mono S.le) ?_
 intro f c
 refine ⟨_,_,_,_,rfl,B3 _,?_⟩
 have d:ZI g f A an ac (-x):=⟨i.cap,by rw [Int.natAbs_neg];exact i.mag,c.sgn⟩
 have a:(-x*y).natAbs=(x*y).natAbs:=gz0
 refine An (N1:=N1) S d j hab hN2 o hN1 ?_
 grind
def T4{XA YA:Option aG}{xn xc yn yc:Nat}(ma:Mw h XA xn x)(mb:Mw h YA yn y)(hyx:y<=x)(hl:xn<=1000000000)(hK:∀ A' m c' h',h.le h'->m<=c'->Mw h' A' m (x-y)->K (.slice A' m c') h'):aN prog 222 #[.slice XA xn xc,.slice YA yn yc] h K:=by
 have l:yn<=xn:=mb.len_le dc (Int.lt_of_le_of_lt hyx (ma.lt dc))
 obtain ⟨A,c,p,s,C,rfl⟩:=ma
 obtain ⟨B,a,k,r,u,rfl⟩:=mb
 refine (fnk func222 (wr:=[249])) ?_
 refine I0 K0 o o o ?_
 intro b j
 refine ⟨_,_,_,rfl,?_⟩
 have w:=Win.blk .u64 230 j (aE xn 0)
 refine Ac K0 w (by simp) (p.mono w.le) c gz0 ?_
 intro z f
 refine ⟨_,rfl,?_⟩
 rw [dK gz0,List.append_nil] at f
 refine V6 f c k a s r o hyx o ?_
 intro zs t n d e g
 refine ⟨rfl,?_⟩
 refine R6 g.sl d o e (aH _) o ?_
 intro m q i
 exact ⟨_,_,_,rfl,hK _ _ _ _ g.le q i⟩
def Ku{b:Nat}{e:aO}{N:Nat}{M v:Int}(S:SumS h g b e N M v)(hN2:N<=400000000)(hK:∀ s A n c h',h.le h'->ZI h' s A n c v->K (.agg #[.bool s,.slice A n c]) h'):aN prog 164 #[.pointer (some ⟨b,0,none⟩)] h K:=by
 obtain ⟨PA,NA,p,q,m,u,i,f,g1,y,z,k,E,rfl,r,t,dp,R,hv,G,X,x⟩:=S
 have C:(aC ⟨b,0,none⟩ 0)=⟨b,0,none⟩:=Ae b 0 0
 have W:(aC ⟨b,0,none⟩ 1)=⟨b,1,none⟩:=Ae b 0 1
 have B:=Heap.le_put (.cells #[.slice PA p q,.slice NA m u] e) E
 refine (fnk func164 (os:=[(1,[0,1,2,3,5,6,7,8,4,9,10,11])]) (own:=[2])) ?_
 refine ⟨_,rfl,_,_,_,by rw [C,D6];rfl,_,rfl,_,_,_,by rw [W,D6];rfl,?_⟩
 have D:SlI .u64 (y.put b (.cells #[.slice PA p q,.slice NA m u] e)) PA i:=SlI.mono B (SlI.mono k.le z.slV)
 have Q:SlI .u64 (y.put b (.cells #[.slice PA p q,.slice NA m u] e)) NA f:=SlI.mono B k.slV
 refine R6 D dp r rfl z.2.1 o ?_
 intro m1 H M1
 refine ⟨_,_,_,rfl,B3 _,?_⟩
 refine R6 Q R t rfl k.2.1 o ?_
 intro m2 L M2
 refine ⟨_,_,_,rfl,B3 _,?_⟩
 refine H2 M1 M2 o ⟨_,rfl,?_⟩
 refine B5 (fun w=>?_) (fun w=>?_)
 ·have a:val b64 f<=val b64 i:=by unfold Jh at w;omega
  refine T4 M1 M2 a o ?_
  intro A3 F T V O l M3
  obtain ⟨d,j⟩:=dI (show 0<=val b64 i-val b64 f from o)
  rw [j] at M3
  refine ⟨_,_,_,rfl,O9 (v:=d) M3 l ?_⟩
  grind
 ·have a:val b64 i<=val b64 f:=by
   unfold Jh at w
   omega
  refine T4 M2 M1 a o ?_
  intro A3 F T V O l M3
  obtain ⟨d,j⟩:=dI (show 0<=val b64 f-val b64 i from o)
  rw [j] at M3
  refine ⟨_,_,_,rfl,O9 (v:=d) M3 l ?_⟩
  grind
def Vs(gl:Gtz h)(i:ZI h s A an ac x)(j:ZI h s' B bn bc y)(hx:ZB m x)(hy:ZB m y)(hm:m<=6400000000)(hK:∀ A' n' c' h',h.le h'->ZI h' false A' n' c' (Int.lcm x y:Int)->K (.agg #[.bool false,.slice A' n' c']) h'):aN prog 253 #[.agg #[.bool s,.slice A an ac],.agg #[.bool s',.slice B bn bc]] h K:=by
 have c:=i.zeroIff
 have d:=j.zeroIff
 have w:=i.len hx hm
 have a:=j.len hy hm
 refine (fnk func253 (own:=[2,3,4])) ?_
 refine D5 (fun k=>?_) (fun S=>D5 (fun k=>?_) (fun H=>?_))
 ·refine hK none 0 0 h (B3 _) ?_
  rw [c.2 o,Int.lcm_zero_left];exact ZI.zero
 ·refine hK none 0 0 h (B3 _) ?_
  rw [d.2 o,Int.lcm_zero_right];exact ZI.zero
 ·refine Et gl i.mag j.mag i.cap j.cap o o ?_
  intro A3 n N Q b q M3
  refine ⟨_,_,_,rfl,b,?_⟩
  rw [Int.gcd_natCast_natCast] at M3
  have E:Nat.gcd x.natAbs y.natAbs≠0:=fun e=>by
   grind
  have u:n<=100000000:=by
   refine aY (M3.len_le dc (j:=bn) ?_) a
   have r:=j.mag.lt dc
   have l:Nat.gcd x.natAbs y.natAbs<=y.natAbs:=Nat.gcd_le_right _ o
   omega
  refine M0 (j.mag.mono b) M3 j.cap q o o o ?_
  intro A4 p L A5 D O F f C G M4 M5
  refine ⟨_,_,_,_,_,_,rfl,f,?_⟩
  have g:p<=100000000:=by
   refine aY (M4.len_le dc (j:=bn) ?_) a
   have r:=j.mag.lt dc
   have l:=cY y.natAbs (Nat.gcd x.natAbs y.natAbs)
   omega
  refine F5 (i.mag.mono (A0 b f)) M4 i.cap C o o ?_
  intro A6 M T R z t M6
  refine ⟨_,_,_,rfl,hK _ _ _ _ (A0 b (A0 f z)) ⟨t,?_,?_⟩⟩
  ·have:Int.lcm x y=x.natAbs*(y.natAbs/Nat.gcd x.natAbs y.natAbs):=by
    show Nat.lcm x.natAbs y.natAbs=_
    rw [Nat.lcm,Nat.mul_div_assoc _ (Nat.gcd_dvd_right _ _)]
   grind
  rfl
end
abbrev RQr:aD->QV->Rat->Prop:=fun h w q=>RQ h w q
abbrev NQr:aD->QV->Rat->Prop:=fun h w q=>NQ h w q
abbrev ZIr:aD->IV->Int->Prop:=fun h w z=>ZI h w.s w.A w.n w.c z
abbrev SSr:aD->List UInt8->List UInt8->Prop:=fun _ w s=>w=s
def Mon{α β:Type}(R:aD->α->β->Prop):Prop:=∀ (h h':aD) (w:α) (x:β),h.le h'->R h w x->R h' w x
def El:Mon RQr:=fun _ _ _ _ a i=>⟨i.num.mono a,i.den.mono a⟩
def Od:Mon NQr:=fun _ _ _ _ a i=>NQ.mono a i
def Uq:Mon ZIr:=fun _ _ _ _ a i=>i.mono a
def R2:Mon SSr:=fun _ _ _ _ _ i=>i
instance:Enc QV:=⟨⟨fun w=>[.bool w.s,.slice w.A w.n w.c,.bool w.s2,.slice w.A2 w.n2 w.c2],4,fun _=>rfl,fun w v hv=>by simp at hv;rcases hv with rfl|rfl|rfl|rfl<;>rfl⟩⟩
section
variable {α β:Type}
def Row(R:aD->α->β->Prop)(g:aD)(xs:List α)(n:Nat)(f:Nat->β):Prop:=∀ i,i<n->∃ w,xs[i]? = some w/\R g w (f i)
variable {R:aD->α->β->Prop} {g g' h h':aD} {xs:List α} {n:Nat} {f:Nat->β}
def Row.mono(m:Mon R)(hl:g.le g')(r:Row R g xs n f):Row R g' xs n f:=fun i b=>by
 obtain ⟨w,e,a⟩:=r i b
 exact ⟨w,e,m _ _ _ _ hl a⟩
def Row.nil:Row R g xs 0 f:=fun i a=>by omega
def Row.set{k:Nat}(r:Row R g xs k f)(hk:k<xs.length){w:α}(hw:R g w (f k)):Row R g (xs.set k w) (k+1) f:=fun i a=>by
 by_cases e:i=k
 ·grind
 ·obtain ⟨u,c,b⟩:=r i o
  grind
def Row.upd(r:Row R g xs n f){k:Nat}(hk:k<xs.length){w:α}{y:β}(hw:R g w y):Row R g (xs.set k w) n (fun i=>if i=k then y else f i):=fun i a=>by
 by_cases e:i=k
 ·grind
 ·obtain ⟨u,c,b⟩:=r i a
  grind
def Row.push(r:Row R g xs xs.length f){w:α}(hw:R g w (f xs.length)):Row R g (xs++[w]) (xs++[w]).length f:=fun i a=>by
 by_cases e:i=xs.length
 ·grind
 ·obtain ⟨u,c,b⟩:=r i gz0
  grind
def Row.congr{f':Nat->β}(r:Row R g xs n f)(h:∀ i,i<n->f i=f' i):Row R g xs n f':=fun i a=>by
 obtain ⟨w,e,b⟩:=r i a
 grind
def Row.get(r:Row R g xs n f){i:Nat}(hi:i<n)(hl:i<xs.length):R g xs[i] (f i):=by
 obtain ⟨w,e,a⟩:=r i hi
 grind
variable [E:Enc α]
def RowV(R:aD->α->β->Prop)(h:aD)(A:Option aG)(n:Nat)(f:Nat->β):Prop:=∃ xs:List α,SlF h A xs/\xs.length=n/\Row R h xs n f
def RowV.mono(m:Mon R){A:Option aG}(hl:h.le h')(r:RowV R h A n f):RowV R h' A n f:=by
 obtain ⟨a,s,e,r⟩:=r
 exact ⟨a,s.mono hl,e,r.mono m hl⟩
def RowV.nil{A:Option aG}:RowV R h A 0 f:=⟨[],SlF.nil,rfl,Row.nil⟩
def RowV.congr{A:Option aG}{f':Nat->β}(r:RowV R h A n f)(e:∀ i,i<n->f i=f' i):RowV R h A n f':=by
 obtain ⟨a,s,l,r⟩:=r
 exact ⟨a,s,l,r.congr e⟩
def RowV.cut{A:Option aG}(r:RowV R h A n f){c l k:Nat}(hlk:l+k<=n)(hc:n<=c):RowV R h (N3 A c l E.default.size) k (fun i=>f (l+i)):=by
 obtain ⟨a,s,e,r⟩:=r
 refine ⟨(a.drop l).take (l+k-l),s.cut (l:=l) (m:=l+k) o o o,gz0,fun i d=>?_⟩
 obtain ⟨w,g,b⟩:=r (l+i) o
 grind
def RowV.at(pos:0<E.default.size){A:Option aG}(r:RowV R h A n f){i:Nat}(hi:i<n):∃ a w,A=some a/\R h w (f i)/\∀ j v,(enc w)[j]? = some v->h.cell? (aC (aC a (i*E.default.size)) j)=some v:=by
 obtain ⟨b,s,e,r⟩:=r
 obtain ⟨a,c,d⟩:=SlF.at pos s (i:=i) o
 exact ⟨a,b[i],c,r.get hi o,d⟩
structure Own (R:aD->α->β->Prop) (h h':aD) (b n:Nat) (f:Nat->β):Prop where
 ex:∃ g o xs,h.le g/\Sep h' g o/\RowX o b xs/\xs.length=n/\Row R g xs n f
def Own.le{b:Nat}(w:Own R h h' b n f):h.le h':=by
 obtain ⟨g,o,a,l,s,_⟩:=w.ex
 exact A0 l s.le
def Own.vis(m:Mon R){b:Nat}(w:Own R h h' b n f):RowV R h' (some ⟨b,0,none⟩) n f:=by
 obtain ⟨g,o,a,l,s,r,e,q⟩:=w.ex
 exact ⟨a,r.rowB.slF s.ole,e,q.mono m s.le⟩
end
section
variable {h:aD} {A:Option aG} {n:Nat}
def RowV.qat{R:aD->QV->Rat->Prop}{f:Nat->Rat}(r:RowV R h A n f){i:Nat}(hi:i<n):∃ a w,A=some a/\R h w (f i)/\h.cell? (aC (aC a (i*4)) 0)=some (.bool w.s)/\h.cell? (aC (aC a (i*4)) 1)=some (.slice w.A w.n w.c)/\h.cell? (aC (aC a (i*4)) 2)=some (.bool w.s2)/\h.cell? (aC (aC a (i*4)) 3)=some (.slice w.A2 w.n2 w.c2):=by
 obtain ⟨a,w,e,d,b⟩:=r.at dc hi
 exact ⟨a,w,e,d,b 0 _ rfl,b 1 _ rfl,b 2 _ rfl,b 3 _ rfl⟩
def RowV.sat{f:Nat->List UInt8}(r:RowV SSr h A n f){i:Nat}(hi:i<n):∃ a,A=some a/\h.cell? (aC a (i*1))=some (.string (bs (f i))):=by
 obtain ⟨a,w,e,c,d⟩:=r.at dc hi
 have b:w=f i:=c
 subst b
 refine ⟨a,e,?_⟩
 have:=d 0 _ rfl
 assumption
end
section
set_option maxRecDepth 100000
variable {h:aD} {K:VP}
def A5a:cO prog 113 3 (I 0) 1 8:=⟨by kernel_rfl,by kernel_rfl,rfl,dc⟩
def A90:cO prog 132 93 (Qv false none 0 0 false none 0 0) 4 64:=⟨by kernel_rfl,by kernel_rfl,rfl,dc⟩
def Kt:prog.cellsOf 93=4/\(prog.info? 93).isSome=true:=⟨by kernel_rfl,by kernel_rfl⟩
def tZs:cO prog 189 91 (Zv false none 0 0) 2 32:=⟨by kernel_rfl,by kernel_rfl,rfl,dc⟩
def Wk:prog.cellsOf 91=2/\(prog.info? 91).isSome=true:=⟨by kernel_rfl,by kernel_rfl⟩
def A91:cO prog 76 79 (N0) 1 24:=⟨by kernel_rfl,by kernel_rfl,rfl,dc⟩
def Sh:prog.cellsOf 79=1/\(prog.info? 79).isSome=true:=⟨by kernel_rfl,by kernel_rfl⟩
def Mm:∀ (args:Array aR) (W:World),(callFunc 251 args).run prog W= .ok (.enter 251 args) W:=call251
end
end Go.Proofs.YtdphgbjaijlckaaGreatDoor
namespace Go.Proofs.YtdphgbjaijlckaaGreatDoor
set_option maxRecDepth 20000
def sm:Nat->(Nat->Rat)->Rat
 | 0,_=>0
 | n+1,f=>sm n f+f n
def H9{n:Nat}{f g:Nat->Rat}(h:∀ i,i<n->f i=g i):sm n f=sm n g:=by
 induction n with
 | zero=>rfl
 | succ n ih=>rw [sm,sm,ih (fun i a=>h i o),h n o]
def Kx{n:Nat}{f:Nat->Rat}(h:∀ i,i<n->f i=0):sm n f=0:=by
 induction n with
 | zero=>rfl
 | succ n ih=>rw [sm,ih (fun i a=>h i o),h n o];exact bH 0
def Sj(n:Nat)(f g:Nat->Rat):sm n (fun i=>f i+g i)=sm n f+sm n g:=by
 induction n with
 | zero=>simp only [sm];exact (bH 0).symm
 | succ n ih=>simp only [sm];rw [ih];grind
def Si(n:Nat)(a:Rat)(f:Nat->Rat):sm n (fun i=>a*f i)=a*sm n f:=by
 induction n with
 | zero=>simp only [sm];grind
 | succ n ih=>simp only [sm];rw [ih];grind
def Wq(n:Nat)(f:Nat->Rat):sm n (fun i=> - f i)= - sm n f:=by
 induction n with
 | zero=>simp only [sm];grind
 | succ n ih=>simp only [sm];rw [ih];grind
def A39(n m:Nat)(f:Nat->Nat->Rat):sm n (fun i=>sm m (f i))=sm m (fun j=>sm n (fun i=>f i j)):=by
 induction n with
 | zero=>rw [sm];exact (Kx fun _ _=>rfl).symm
 | succ n ih=>simp only [sm];rw [ih,<- Sj]
def A24{n k:Nat}(hk:k<n){f:Nat->Rat}(h:∀ i,i<n->i≠k->f i=0):sm n f=f k:=by
 induction n with
 | zero=>omega
 | succ n ih=>
  rw [sm]
  by_cases e:k=n
  ·subst e;rw [Kx fun i b=>h i o o];exact Rat.zero_add _
  ·rw [ih o fun i b a=>h i o a,h n o o];exact bH _
def rhx(l i:Nat):Nat:=if i<l then i else i+1
def A5g(l i:Nat):rhx l i≠l:=by unfold rhx;split<;>omega
def Sn{l i k:Nat}(hi:i<k):rhx l i<k+1:=by unfold rhx;split<;>omega
def A5b{k a:Nat}(ha:a<=k)(t:Nat->Rat):sm k (fun i=>t (rhx a i))=sm (k+1) (fun b=>if b=a then 0 else t b):=by
 induction k generalizing a with
 | zero=>
  show (0:Rat)=0+(if 0=a then 0 else t 0)
  rw [iP o];exact (bH 0).symm
 | succ k ih=>
  show sm k (fun i=>t (rhx a i))+t (rhx a k)=sm (k+1) (fun b=>if b=a then 0 else t b)+(if k+1=a then 0 else t (k+1))
  by_cases e:a=k+1
  ·rw [iP e.symm,bH]
   show sm k (fun i=>t (rhx a i))+t (rhx a k)=sm k (fun b=>if b=a then 0 else t b)+(if k=a then 0 else t k)
   rw [iN o]
   congr 1
   ·exact H9 fun i c=>by rw [rhx,iP o,iN o]
   ·rw [rhx,iP o]
  ·rw [ih o,iN (fun x=>e x.symm)]
   congr 1
   rw [rhx,iN o]
def sg(n:Nat):Rat:=if n%2=0 then 1 else -1
def dt:Nat->(Nat->Nat->Rat)->Rat
 | 0,_=>1
 | k+1,X=>sm (k+1) fun l=>sg (k+l)*X k l*dt k (fun c r=>X c (rhx l r))
def O1{k:Nat}: ∀ {X Y:Nat->Nat->Rat},(∀ c r,c<k->r<k->X c r=Y c r)->dt k X=dt k Y:=by
 induction k with
 | zero=>intros;rfl
 | succ k ih=>
  intro X Y h
  rw [dt,dt]
  refine H9 fun l a=>?_
  rw [h k l o a,ih fun c r d b=>h c (rhx l r) o (Sn b)]
def rc(X:Nat->Nat->Rat)(m:Nat)(y:Nat->Rat):Nat->Nat->Rat:=fun c r=>if c=m then y r else X c r
def Z5(X:Nat->Nat->Rat)(m:Nat)(y:Nat->Rat)(l:Nat):(fun c r=>rc X m y c (rhx l r))=rc (fun c r=>X c (rhx l r)) m (fun r=>y (rhx l r)):=by
 funext c r;unfold rc;split<;>rfl
def Oy{k:Nat}: ∀ (X:Nat->Nat->Rat) {m:Nat} (_:m<k) (y z:Nat->Rat),dt k (rc X m fun r=>y r+z r)=dt k (rc X m y)+dt k (rc X m z):=by
 induction k with
 | zero=>intros;omega
 | succ k ih=>
  intro X m a y z
  rw [dt,dt,dt,<- Sj]
  refine H9 fun l b=>?_
  by_cases e:m=k
  ·subst e
   have:∀ u:Nat->Rat,dt m (fun c r=>rc X m u c (rhx l r))=dt m (fun c r=>X c (rhx l r)):=fun u=>O1 fun c r d _=>by rw [rc,iN o]
   rw [this,this,this]
   simp only [rc,if_true]
   grind
  ·rw [Z5,Z5,Z5,ih _ o]
   simp only [rc,iN (fun x:k=m=>e x.symm)]
   grind
def Yx{k:Nat}: ∀ (X:Nat->Nat->Rat) {m:Nat} (_:m<k) (a:Rat) (y:Nat->Rat),dt k (rc X m fun r=>a*y r)=a*dt k (rc X m y):=by
 induction k with
 | zero=>intros;omega
 | succ k ih=>
  intro X m b a y
  rw [dt,dt,<- Si]
  refine H9 fun l d=>?_
  by_cases e:m=k
  ·subst e
   have:∀ u:Nat->Rat,dt m (fun c r=>rc X m u c (rhx l r))=dt m (fun c r=>X c (rhx l r)):=fun u=>O1 fun c r f _=>by rw [rc,iN o]
   rw [this,this]
   simp only [rc,if_true]
   grind
  ·rw [Z5,Z5,ih _ o]
   simp only [rc,iN (fun x:k=m=>e x.symm)]
   grind
def A4e{k:Nat}(X:Nat->Nat->Rat){m:Nat}(hm:m<k):dt k (rc X m fun _=>0)=0:=by
 have:=Yx X hm 0 (fun _=>0)
 rw [Rat.zero_mul] at this
 simpa only [Rat.zero_mul] using this
def A2r{k:Nat}(X:Nat->Nat->Rat){m:Nat}(hm:m<k)(a:Nat->Rat)(Y:Nat->Nat->Rat):∀ n,dt k (rc X m fun r=>sm n fun t=>a t*Y t r)=sm n fun t=>a t*dt k (rc X m (Y t)):=by
 intro n
 induction n with
 | zero=>exact A4e X hm
 | succ n ih=>
  simp only [sm]
  rw [Oy X hm,ih,Yx X hm]
def Qo(X:Nat->Nat->Rat)(m:Nat):rc X m (X m)=X:=by
 funext c r;unfold rc;split
 ·rename_i e;rw [e]
 ·rfl
def Tl{k:Nat}(X:Nat->Nat->Rat)(h:∀ r,r<k+2->X k r=X (k+1) r):dt (k+2) X=0:=by
 let mn:Nat->Nat->Rat:=fun a b=>dt k (fun c r=>X c (if a<b then rhx a (rhx (b-1) r) else rhx b (rhx (a-1) r)))
 let G:Nat->Nat->Rat:=fun a b=>if a=b then 0 else if b<a then sg (a+b)*X (k+1) a*X (k+1) b*mn a b else-(sg (a+b)*X (k+1) a*X (k+1) b*mn a b)
 have m:∀ a b,mn a b=mn b a:=by
  intro a b
  show dt k _=dt k _
  refine O1 fun c r _ _=>?_
  by_cases d:a<b
  ·rw [iP d,iN o]
  ·by_cases n:b<a
   ·rw [iN d,iP n]
   ·have:a=b:=o
    subst this;rfl
 have t:∀ a b,G b a= - G a b:=by
  intro a b
  show (if b=a then 0 else if a<b then _ else _)= - (if a=b then 0 else if b<a then _ else _)
  by_cases e:a=b
  ·rw [iP e,iP e.symm];grind
  ·rw [iN e,iN (fun x=>e x.symm)]
   have z:=m a b
   by_cases d:a<b
   ·rw [iP d,iN o,cQ b a];grind
   ·rw [iN d,iP o,cQ b a];grind
 have f:dt (k+2) X=sm (k+2) fun a=>sm (k+2) fun b=>G a b*sg (k+1+k):=by
  rw [dt]
  refine H9 fun a u=>?_
  have p:(fun b=>G a b*sg (k+1+k))=(fun b=>if b=a then 0 else (fun b=>G a b*sg (k+1+k)) b):=by
   funext b
   by_cases e:b=a
   ·subst e;rw [iP rfl];show (if b=b then 0 else _)*_=_;rw [iP rfl];grind
   ·rw [iN e]
  rw [p,<- A5b o (fun b=>G a b*sg (k+1+k)),dt,<- Si]
  refine H9 fun i s=>?_
  have l:X k (rhx a i)=X (k+1) (rhx a i):=h _ (Sn s)
  have j:dt k (fun c r=>X c (rhx a (rhx i r)))=mn a (rhx a i):=by
   show _=dt k _
   refine O1 fun c r _ _=>?_
   by_cases d:i<a
   ·have g:rhx a i=i:=by rw [rhx,iP d]
    rw [g,iN o]
    congr 1
    simp only [rhx]
    repeat' split
    all_goals omega
   ·have g:rhx a i=i+1:=by rw [rhx,iN d]
    rw [g,iP o,Nat.add_sub_cancel]
  rw [l,j]
  show _=(if a=rhx a i then 0 else if rhx a i<a then _ else _)*_
  rw [iN (fun e=>A5g a i e.symm)]
  have w:∀ x y:Nat,x%2=y%2->sg x=sg y:=fun x y e=>by unfold sg;rw [e]
  by_cases d:i<a
  ·have g:rhx a i=i:=by rw [rhx,iP d]
   rw [g,iP d]
   have q:sg (k+1+a)*sg (k+i)=sg (a+i)*sg (k+1+k):=by
    unfold sg
    repeat' split
    all_goals first|omega|grind
   grind
  ·have g:rhx a i=i+1:=by rw [rhx,iN d]
   rw [g,iN o]
   have q:sg (k+1+a)*sg (k+i)= - sg (a+(i+1))*sg (k+1+k):=by
    unfold sg
    repeat' split
    all_goals first|omega|grind
   grind
 have n:dt (k+2) X= - dt (k+2) X:=by
  have:dt (k+2) X=sm (k+2) fun a=>sm (k+2) fun b=>G b a*sg (k+1+k):=by
   rw [f];exact A39 _ _ _
  refine this.trans ?_
  rw [f,<- Wq]
  refine H9 fun a _=>?_
  rw [<- Wq]
  exact H9 fun b _=>by rw [t];grind
 grind
def A4g:∀ {k:Nat} (X:Nat->Nat->Rat) {p q:Nat} (_:p<q) (_:q<k) (_:∀ r,r<k->X p r=X q r),dt k X=0:=by
 intro k
 induction k with
 | zero=>intros;omega
 | succ k ih=>
  intro X p q f A h
  by_cases e:q=k
  ·subst e
   by_cases x:p+1=q
   ·subst x
    exact Tl X h
   ·
    obtain ⟨k',rfl⟩:∃ k',q=k'+1:=⟨q-1,o⟩
    have j:p<k':=o
    have swap:∀ (Z:Nat->Nat->Rat),dt (k'+1) (rc (rc Z p (Z k')) k' (Z p))= - dt (k'+1) Z:=by
     intro Z
     have i:∀ y:Nat->Rat,dt (k'+1) (rc (rc Z p y) k' y)=0:=fun y=>ih _ j o fun r _=>by
      unfold rc;rw [iN o,iP rfl,iP rfl]
     have comm:∀ y z:Nat->Rat,rc (rc Z p y) k' z=rc (rc Z k' z) p y:=by
      intro y z;funext c r;unfold rc
      by_cases b:c=k'
      ·by_cases a:c=p
       ·omega
       ·rw [iP b,iN a,iP b]
      ·by_cases a:c=p
       ·rw [iN b,iP a,iP a]
       ·rw [iN b,iN a,iN a,iN b]
     have d:=i (fun r=>Z p r+Z k' r)
     rw [Oy _ o] at d
     rw [comm _ (Z p),comm _ (Z k'),Oy _ o,Oy _ o] at d
     rw [<- comm,<- comm,<- comm,<- comm] at d
     rw [i (Z p),i (Z k')] at d
     have s:rc (rc Z p (Z p)) k' (Z k')=Z:=by rw [Qo,Qo]
     rw [s] at d
     grind
    have w:dt (k'+1+1) X= - dt (k'+1+1) (rc (rc X p (X k')) k' (X p)):=by
     rw [dt,dt,<- Wq]
     refine H9 fun l _=>?_
     have t:rc (rc X p (X k')) k' (X p) (k'+1) l=X (k'+1) l:=by unfold rc;rw [iN o,iN o]
     have m:(fun c r=>rc (rc X p (X k')) k' (X p) c (rhx l r))=rc (rc (fun c r=>X c (rhx l r)) p (fun r=>X k' (rhx l r))) k' (fun r=>X p (rhx l r)):=by
      rw [Z5,Z5]
     have:=swap (fun c r=>X c (rhx l r))
     rw [t,m,this]
     grind
    rw [w,Tl _ fun r g=>?_]
    ·grind
    ·have n:rc (rc X p (X k')) k' (X p) k' r=X p r:=by unfold rc;rw [iP rfl]
     have u:rc (rc X p (X k')) k' (X p) (k'+1) r=X (k'+1) r:=by unfold rc;rw [iN o,iN o]
     rw [n,u];exact h r g
  ·rw [dt]
   refine Kx fun l _=>?_
   rw [ih _ f o fun r g=>h (rhx l r) (Sn g)]
   grind
def A4f{k:Nat}(X:Nat->Nat->Rat)(h:∀ r,r<k->X k r=0):dt (k+1) X=X k k*dt k X:=by
 rw [dt,A24 (k:=k) o fun i e b=>by rw [h i o];grind]
 have:dt k (fun c r=>X c (rhx k r))=dt k X:=O1 fun c r _ d=>by rw [rhx,iP d]
 have a:sg (k+k)=1:=by unfold sg;rw [iP o]
 rw [this,a,Rat.one_mul]
def Wh(q:Rat):Prop:=∃ z:Int,q=(z:Rat)
def Wh.add{p q:Rat}(hp:Wh p)(hq:Wh q):Wh (p+q):=by
 obtain ⟨a,rfl⟩:=hp;obtain ⟨b,rfl⟩:=hq
 exact ⟨a+b,by rw [Rat.intCast_add]⟩
def Wh.mul{p q:Rat}(hp:Wh p)(hq:Wh q):Wh (p*q):=by
 obtain ⟨a,rfl⟩:=hp;obtain ⟨b,rfl⟩:=hq
 exact ⟨a*b,by rw [aT]⟩
def Wh.sg(n:Nat):Wh (sg n):=by
 unfold Go.Proofs.YtdphgbjaijlckaaGreatDoor.sg
 split
 ·exact ⟨1,rfl⟩
 ·exact ⟨-1,by decide +kernel⟩
def Wh.sm{n:Nat}{f:Nat->Rat}(h:∀ i,i<n->Wh (f i)):Wh (sm n f):=by
 induction n with
 | zero=>exact ⟨0,rfl⟩
 | succ n ih=>exact (ih fun i a=>h i o).add (h n o)
def A73{k:Nat}: ∀ {X:Nat->Nat->Rat},(∀ c r,c<k->r<k->Wh (X c r))->Wh (dt k X):=by
 induction k with
 | zero=>intro X _;exact ⟨1,rfl⟩
 | succ k ih=>
  intro X h
  rw [dt]
  refine Wh.sm fun l a=>?_
  exact ((Wh.sg _).mul (h k l o a)).mul (ih fun c r d b=>h c _ o (Sn b))
structure Elim (n w:Nat) (B R:Nat->Nat->Rat) (cs:Nat->Nat) (k:Nat):Prop where
 kn:k<=n
 cw:∀ m,m<k->cs m<w
 piv:∀ l m,l<k->m<k->R l (cs m)=if l=m then 1 else 0
 low:∀ i m,i<n->k<=i->m<k->R i (cs m)=0
 top:∀ l j,l<k->j<w->B l j=sm k fun m=>B l (cs m)*R m j
 bot:∀ i j,i<n->k<=i->j<w->B i j=R i j+sm k fun m=>B i (cs m)*R m j
def dp(B:Nat->Nat->Rat)(cs:Nat->Nat)(k:Nat):Rat:=dt k fun c r=>B r (cs c)
section
variable {n w:Nat} {B R:Nat->Nat->Rat} {cs:Nat->Nat} {k:Nat}
def Elim.below(E:Elim n w B R cs k){i j:Nat}(hi:i<n)(hk:k<=i)(hj:j<w):dp B cs k*R i j=dt (k+1) fun c r=>B (if r<k then r else i) (if c<k then cs c else j):=by
 have d:(fun c r=>B (if r<k then r else i) (if c<k then cs c else j))=rc (fun c r=>B (if r<k then r else i) (cs c)) k (fun r=>B (if r<k then r else i) j)\/True:=.inr trivial
 clear d
 let X:Nat->Nat->Rat:=fun c r=>B (if r<k then r else i) (cs c)
 have e:dt (k+1) (fun c r=>B (if r<k then r else i) (if c<k then cs c else j))=dt (k+1) (rc X k fun r=>(sm k fun t=>R t j*X t r)+(if r<k then 0 else R i j)):=by
  refine O1 fun c r g b=>?_
  unfold rc
  by_cases h:c=k
  ·subst h
   rw [iN (cM c),iP rfl]
   show _=(sm c fun t=>R t j*X t r)+(if r<c then 0 else R i j)
   by_cases a:r<c
   ·rw [iP a,iP a,bH,E.top r j a hj]
    refine H9 fun m _=>?_
    show _=_*B (if r<c then r else i) (cs m)
    rw [iP a,cP]
   ·rw [iN a,iN a,E.bot i j hi hk hj,Rat.add_comm]
    congr 1
    refine H9 fun m _=>?_
    show _=_*B (if r<c then r else i) (cs m)
    rw [iN a,cP]
  ·rw [iN h,iP (show c<k from o)]
 rw [e,Oy _ o,A2r X o (fun t=>R t j) X]
 rw [Kx fun t f=>by
  rw [A4g (rc X k (X t)) (p:=t) (q:=k) f o fun r _=>by unfold rc;rw [iN o,iP rfl]]
  exact cC _]
 rw [A4f _ fun r b=>by unfold rc;rw [iP rfl];show (if r<k then 0 else R i j)=0;rw [iP b]]
 have l:dt k (rc X k fun r=>if r<k then 0 else R i j)=dp B cs k:=by
  refine O1 fun c r g b=>?_
  unfold rc
  rw [iN o]
  show B (if r<k then r else i) (cs c)=_
  rw [iP b]
 rw [l]
 unfold rc
 rw [iP rfl]
 show _=0+(if k<k then 0 else R i j)*_
 rw [iN (cM k)]
 grind
def Elim.above(E:Elim n w B R cs k){i j:Nat}(hi:i<k)(hj:j<w):dp B cs k*R i j=dt k (rc (fun c r=>B r (cs c)) i fun r=>B r j):=by
 let X:Nat->Nat->Rat:=fun c r=>B r (cs c)
 have d:dt k (rc X i fun r=>B r j)=dt k (rc X i fun r=>sm k fun t=>R t j*X t r):=by
  refine O1 fun c r f b=>?_
  unfold rc
  split
  ·show B r j=sm k fun t=>R t j*X t r
   rw [E.top r j b hj]
   exact H9 fun m _=>cP _ _
  ·rfl
 show _=dt k (rc X i fun r=>B r j)
 rw [d,A2r X hi (fun t=>R t j) X,A24 (k:=i) hi fun t e a=>?_]
 ·rw [Qo,cP];rfl
 ·rcases Nat.lt_or_ge t i with h|h
  ·rw [A4g (rc X i (X t)) (p:=t) (q:=i) h hi fun r _=>by unfold rc;rw [iN o,iP rfl]]
   exact cC _
  ·rw [A4g (rc X i (X t)) (p:=i) (q:=t) o e fun r _=>by unfold rc;rw [iP rfl,iN o]]
   exact cC _
def Elim.whole(E:Elim n w B R cs k)(hB:∀ i j,i<n->j<w->Wh (B i j)){i j:Nat}(hi:i<n)(hj:j<w):Wh (dp B cs k*R i j):=by
 by_cases h:i<k
 ·rw [E.above h hj]
  refine A73 fun c r a b=>?_
  have:=E.kn
  unfold rc
  split
  ·exact hB r j o hj
  ·exact hB r _ o (E.cw c a)
 ·rw [E.below hi o hj]
  refine A73 fun c r a b=>?_
  refine hB _ _ ?_ ?_
  ·split<;>omega
  ·split
   ·exact E.cw c (by assumption)
   ·exact hj
def Elim.next(E:Elim n w B R cs k){j:Nat}(hk:k<n)(hj:j<w)(hc:cs k=j):dp B cs (k+1)=dp B cs k*R k j:=by
 rw [E.below hk (aH _) hj]
 refine O1 fun c r b e=>?_
 have d:(if r<k then r else k)=r:=by split<;>omega
 have a:(if c<k then cs c else j)=cs c:=by
  split
  ·rfl
  ·have:c=k:=o
   rw [this,hc]
 rw [d,a]
def W9(R:Nat->Nat->Rat)(k j:Nat):Nat->Nat->Rat:=fun a b=>if a=k then R k b/R k j else R a b-R a j*(R k b/R k j)
def Elim.step(E:Elim n w B R cs k){j:Nat}(hk:k<n)(hj:j<w)(hc:cs k=j)(hne:R k j≠0):Elim n w B (W9 R k j) cs (k+1):=by
 have d:∀ m,m<k->R k (cs m)=0:=fun m p=>E.low k m hk (aH _) p
 have f:R k j/R k j=1:=gz0
 refine ⟨o,fun m p=>?_,fun l m A p=>?_,fun i m q u p=>?_,fun l b A r=>?_,fun i b q u r=>?_⟩
 ·by_cases e:m=k
  ·rw [e,hc];exact hj
  ·exact E.cw m o
 ·unfold W9
  by_cases s:m=k
  ·subst s
   rw [hc]
   by_cases c:l=m
   ·rw [iP c,iP c];exact f
   ·rw [iN c,iN c,f];grind
  ·have a:m<k:=o
   rw [d m a]
   by_cases c:l=k
   ·subst c
    rw [iP rfl,iN o];grind
   ·rw [iN c,E.piv l m o a]
    grind
 ·unfold W9
  rw [iN o]
  by_cases s:m=k
  ·subst s
   rw [hc,f];grind
  ·have a:m<k:=o
   rw [d m a,E.low i m q o a]
   grind
 ·rw [sm]
  have t:(W9 R k j) k b=R k b/R k j:=by unfold W9;rw [iP rfl]
  have x:sm k (fun m=>B l (cs m)*W9 R k j m b)=sm k (fun m=>B l (cs m)*R m b)-sm k (fun m=>B l (cs m)*R m j)*(R k b/R k j):=by
   have:(fun m=>B l (cs m)*W9 R k j m b)=fun m=>if m=k then B l (cs k)*(R k b/R k j) else B l (cs m)*R m b+(-(R k b/R k j))*(B l (cs m)*R m j):=by
    funext m
    unfold W9
    by_cases e:m=k
    ·rw [iP e,iP e,e]
    ·rw [iN e,iN e];grind
   rw [this,H9 (g:=fun m=>B l (cs m)*R m b+(-(R k b/R k j))*(B l (cs m)*R m j)) fun m p=>by rw [iN o]]
   rw [Sj,Si];grind
  rw [t,x,hc]
  by_cases c:l=k
  ·subst c
   have t1:=E.bot l b hk (aH _) r
   have y:=E.bot l j hk (aH _) hj
   grind
  ·have t1:=E.top l b o r
   have y:=E.top l j o hj
   grind
 ·rw [sm]
  have t:(W9 R k j) k b=R k b/R k j:=by unfold W9;rw [iP rfl]
  have x:sm k (fun m=>B i (cs m)*W9 R k j m b)=sm k (fun m=>B i (cs m)*R m b)-sm k (fun m=>B i (cs m)*R m j)*(R k b/R k j):=by
   have:(fun m=>B i (cs m)*W9 R k j m b)=fun m=>if m=k then B i (cs k)*(R k b/R k j) else B i (cs m)*R m b+(-(R k b/R k j))*(B i (cs m)*R m j):=by
    funext m
    unfold W9
    by_cases e:m=k
    ·rw [iP e,iP e,e]
    ·rw [iN e,iN e];grind
   rw [this,H9 (g:=fun m=>B i (cs m)*R m b+(-(R k b/R k j))*(B i (cs m)*R m j)) fun m p=>by rw [iN o]]
   rw [Sj,Si];grind
  have z:W9 R k j i b=R i b-R i j*(R k b/R k j):=by unfold W9;rw [iN o]
  have t1:=E.bot i b q o r
  have y:=E.bot i j q o hj
  rw [t,x,z,hc]
  grind
def xch(k l:Nat)(i:Nat):Nat:=if i=k then l else if i=l then k else i
def Elim.swap(E:Elim n w B R cs k){l:Nat}(hk:k<=l)(hl:l<n):Elim n w (fun i=>B (xch k l i)) (fun i=>R (xch k l i)) cs k:=by
 have f:∀ i,i<k->xch k l i=i:=fun i e=>by unfold xch;rw [iN o,iN o]
 have p:∀ i,i<n->k<=i->xch k l i<n/\k<=xch k l i:=fun i r q=>by unfold xch;split<;>(try split)<;>omega
 refine ⟨E.kn,E.cw,fun a m d b=>?_,fun i m e c b=>?_,fun a j d g=>?_,fun i j e c g=>?_⟩
 ·show R (xch k l a) _=_
  rw [f a d];exact E.piv a m d b
 ·have:=p i e c
  exact E.low _ m this.1 this.2 b
 ·show B (xch k l a) j=sm k fun m=>B (xch k l a) (cs m)*R (xch k l m) j
  rw [f a d,E.top a j d g]
  exact H9 fun m b=>by rw [f m b]
 ·have:=p i e c
  show B (xch k l i) j=R (xch k l i) j+sm k fun m=>B (xch k l i) (cs m)*R (xch k l m) j
  rw [E.bot _ j this.1 this.2 g]
  congr 1
  exact H9 fun m b=>by rw [f m b]
def A4h(B:Nat->Nat->Rat)(cs:Nat->Nat){k l:Nat}(hk:k<=l):dp (fun i=>B (xch k l i)) cs k=dp B cs k:=by
 refine O1 fun c r _ a=>?_
 show B (xch k l r) _=_
 unfold xch;rw [iN o,iN o]
def Elim.start:Elim n w B B cs 0:=by
 refine ⟨cJ _,fun m a=>o,fun l m b=>o,fun i m _ _ a=>o,fun l j b=>o,fun i j _ _ _=>by rw [sm,bH]⟩
def Elim.cs_congr{cs':Nat->Nat}(E:Elim n w B R cs k)(h:∀ m,m<k->cs m=cs' m):Elim n w B R cs' k:=by
 refine ⟨E.kn,fun m a=>by rw [<- h m a];exact E.cw m a,fun l m c a=>by rw [<- h m a];exact E.piv l m c a,fun i m e d a=>by rw [<- h m a];exact E.low i m e d a,fun l j c b=>?_,fun i j e d b=>?_⟩
 ·rw [E.top l j c b];exact H9 fun m a=>by rw [h m a]
 ·rw [E.bot i j e d b];congr 1;exact H9 fun m a=>by rw [h m a]
def A1j{cs':Nat->Nat}(h:∀ m,m<k->cs m=cs' m):dp B cs k=dp B cs' k:=O1 fun c r a _=>by rw [h c a]
end
end Go.Proofs.YtdphgbjaijlckaaGreatDoor
namespace Go.Proofs.YtdphgbjaijlckaaGreatDoor
set_option maxRecDepth 20000
def fnd(p:Nat->Bool):Nat->Nat->Nat
 | 0,i=>i
 | f+1,i=>bif p i then i else fnd p f (i+1)
def Ym(p:Nat->Bool):∀ f i,i<=fnd p f i/\fnd p f i<=i+f:=by
 intro f
 induction f with
 | zero=>intro i;simp [fnd]
 | succ f ih=>
  intro i
  unfold fnd
  grind
def Rf(p:Nat->Bool):∀ f i,fnd p f i<i+f->p (fnd p f i)=true:=by
 intro f
 induction f with
 | zero=>intro i h;simp [fnd] at h
 | succ f ih=>
  intro i h
  unfold fnd at h ⊢
  grind
def Tf(p:Nat->Bool):∀ f i j,i<=j->j<fnd p f i->p j=false:=by
 intro f
 induction f with
 | zero=>intro i j b a;simp [fnd] at a;omega
 | succ f ih=>
  intro i j b a
  unfold fnd at a
  grind
def Yn{p q:Nat->Bool}: ∀ f i,(∀ j,i<=j->j<i+f->p j=q j)->fnd p f i=fnd q f i:=by
 intro f
 induction f with
 | zero=>intros;rfl
 | succ f ih=>
  intro i h
  unfold fnd
  grind
def A2l(p:Nat->Bool){f i k:Nat}(h1:i<=k)(h2:k<=i+f)(h3:∀ j,i<=j->j<k->p j=false)(h4:k<i+f->p k=true):fnd p f i=k:=by
 have a:=Ym p f i
 rcases Nat.lt_trichotomy (fnd p f i) k with h|h|h
 ·have:=Rf p f i o;grind
 ·exact h
 ·have:=Tf p f i k h1 h;grind
structure ES where
 R:Nat->Nat->Rat
 cs:List Nat
 det:Rat
def Hc(R:Nat->Nat->Rat)(k j:Nat):Nat->Nat->Rat:=fun a b=>if a=k then R k b/R k j else if R a j=0\/b<j then R a b else R a b-R a j*(R k b/R k j)
def A0w(n c:Nat)(s:ES):Nat:=fnd (fun i=>decide (s.R i c≠0)) (n-s.cs.length) s.cs.length
def A37(n c:Nat)(s:ES):ES:=
 if s.cs.length<n then
  if A0w n c s<n then
   { R:=Hc (fun i=>s.R (xch s.cs.length (A0w n c s) i)) s.cs.length c
     cs:=s.cs++[c]
     det:=(if A0w n c s=s.cs.length then s.det else-s.det)*s.R (A0w n c s) c }
  else { s with det:=0 }
 else s
def A7k(n:Nat)(s:ES):Nat->ES
 | 0=>s
 | c+1=>A37 n c (A7k n s c)
structure PS where
 M:Nat->Nat->Int
 S:Nat->Rat
 cs:List Nat
 last:Int
 sgn:Int
def clr(M:Nat->Nat->Int)(r c:Nat)(d:Int):Nat->Nat->Int:=fun a b=>if a=r then M r b else (M r c*M a b-M a c*M r b).tdiv d
def Jj(n c:Nat)(s:PS):Nat:=fnd (fun i=>decide (s.M i c≠0)) (n-s.cs.length) s.cs.length
def Bn(n c:Nat)(s:PS):PS:=
 if Jj n c s<n then
  { M:=clr (fun i=>s.M (xch s.cs.length (Jj n c s) i)) s.cs.length c s.last
    S:=fun i=>s.S (xch s.cs.length (Jj n c s) i)
    cs:=s.cs++[c]
    last:=s.M (Jj n c s) c
    sgn:=if Jj n c s=s.cs.length then s.sgn else-s.sgn }
 else s
def Be(n:Nat)(s:PS):Nat->PS
 | 0=>s
 | c+1=>Bn n c (Be n s c)
def pr:Nat->(Nat->Rat)->Rat
 | 0,_=>1
 | n+1,f=>pr n f*f n
def A17{n:Nat}{f g:Nat->Rat}(h:∀ i,i<n->f i=g i):pr n f=pr n g:=by
 induction n with
 | zero=>rfl
 | succ n ih=>rw [pr,pr,ih (fun i a=>h i o),h n o]
def A8o{n:Nat}{f:Nat->Rat}(h:∀ i,i<n->f i≠0):pr n f≠0:=by
 induction n with
 | zero=>rw [pr];grind
 | succ n ih=>
  rw [pr]
  grind
def Sb(k l:Nat):xch k l k=l:=by unfold xch;grind
def Sa{k l i n:Nat}(hk:k<n)(hl:l<n)(hi:i<n):xch k l i<n:=by unfold xch;grind
def A22{k l i:Nat}(hkl:k<=l)(hi:k<=i):k<=xch k l i:=by unfold xch;grind
def Na{k l i:Nat}(hkl:k<=l)(hi:i<k):xch k l i=i:=by unfold xch;grind
def Qf{x d z:Int}(hd:d≠0)(h:x=d*z):x.tdiv d=z:=by
 simp_all
structure ERel (n w c:Nat) (A:Nat->Nat->Rat) (s:ES) (t:PS):Prop where
 cs:s.cs=t.cs
 elim:∃ B,(∀ i j,i<n->j<w->Wh (B i j))/\Elim n w B (fun i j=>if i<s.cs.length then s.R i j else t.S i*s.R i j) (fun m=>s.cs.getD m 0) s.cs.length/\(t.last:Rat)=dp B (fun m=>s.cs.getD m 0) s.cs.length
 last:t.last≠0
 val:∀ i j,i<n->j<w->(t.M i j:Rat)=t.last*(if i<s.cs.length then s.R i j else t.S i*s.R i j)
 scale:∀ i,i<n->t.S i≠0
 zero:∀ i j,i<n->s.cs.length<=i->j<c->s.R i j=0
 asc:s.cs.length<=c
 det:s.cs.length=c->s.det*pr s.cs.length t.S=t.sgn*t.last
 miss:s.cs.length<c->s.cs.length<n->s.det=0
 sgn:t.sgn=1\/t.sgn= -1
def W5{z:Int}(h:z≠0):(z:Rat)≠0:=by
 simp_all
def ERel.start{n w:Nat}{A:Nat->Nat->Rat}{M:Nat->Nat->Int}{S:Nat->Rat}(h:∀ i j,i<n->j<w->(M i j:Rat)=S i*A i j)(hS:∀ i,i<n->S i≠0):ERel n w 0 A ⟨A,[],1⟩ ⟨M,S,[],1,1⟩:=by
 refine ⟨rfl,⟨fun i j=>S i*A i j,fun i j b a=>⟨M i j,(h i j b a).symm⟩,?_,rfl⟩,(by decide:(1:Int)≠0),fun i j b a=>?_,hS,fun i j _ _ a=>o,aH _,fun _=>?_,fun h=>by simp at h,.inl rfl⟩
 ·show Elim n w _ (fun i j=>if i<([]:List Nat).length then A i j else S i*A i j) _ 0
  exact Elim.start
 ·grind
 rfl
def Yh(l:List Nat)(c:Nat):∀ m,m<l.length->(l++[c]).getD m 0=l.getD m 0:=by
 grind
def ERel.row{n w c:Nat}{A:Nat->Nat->Rat}{s:ES}{t:PS}(h:ERel n w c A s t)(hc:c<w):Jj n c t=A0w n c s:=by
 unfold Jj A0w
 rw [<- h.cs]
 refine Yn _ _ fun j f b=>?_
 have a:=h.val j c o hc
 have g:=W5 h.last
 have d:=h.scale j o
 refine decide_eq_decide.2 (not_congr ⟨fun e=>?_,fun e=>?_⟩)
 ·rw [e] at a
  grind
 simp_all
def ERel.step{n w c:Nat}{A:Nat->Nat->Rat}{s:ES}{t:PS}(h:ERel n w c A s t)(hc:c<w):ERel n w (c+1) A (A37 n c s) (Bn n c t):=by
 have Q:=h.row hc
 have a:=Ym (fun i=>decide (s.R i c≠0)) (n-s.cs.length) s.cs.length
 have G:=Tf (fun i=>decide (s.R i c≠0)) (n-s.cs.length) s.cs.length
 have N:=Rf (fun i=>decide (s.R i c≠0)) (n-s.cs.length) s.cs.length
 have hR:fnd (fun i=>decide (s.R i c≠0)) (n-s.cs.length) s.cs.length=A0w n c s:=rfl
 rw [hR] at a G N
 obtain ⟨B,X,E,hD⟩:=h.elim
 unfold A37 Bn
 rw [Q]
 by_cases u:A0w n c s<n
 ·have f:s.cs.length<n:=o
  rw [iP f,iP u,iP u,<- h.cs]
  generalize hr:A0w n c s=r at *
  generalize hl:s.cs.length=k at *
  have E1:=E.swap (l:=r) a.1 u
  have D:∀ m,m<k->s.cs.getD m 0=(s.cs++[c]).getD m 0:=fun m hm=>(Yh s.cs c m o).symm
  have E2:=E1.cs_congr D
  have x:(s.cs++[c]).getD k 0=c:=gz0
  have p:(s.cs++[c]).length=k+1:=gz0
  have xk:xch k r k=r:=Sb k r
  have ai:=h.scale r u
  have ab:t.S r*s.R r c≠0:=by
   grind
  have E3:=E2.step (j:=c) f hc x gz0
  have af:=E2.next (j:=c) f hc x
  have ah:dp (fun i=>B (xch k r i)) (fun m=>(s.cs++[c]).getD m 0) k=(t.last:Rat):=by
   rw [hD,<- A1j D,A4h B _ a.1]
  have F:(t.M r c:Rat)=t.last*(t.S r*s.R r c):=by
   have:=h.val r c u hc
   grind
  have O:dp (fun i=>B (xch k r i)) (fun m=>(s.cs++[c]).getD m 0) (k+1)=(t.M r c:Rat):=by
   grind
  have ac:=W5 h.last
  have L:t.M r c≠0:=by
   intro e
   rw [e] at F
   grind
  have hz:∀ b,b<c->s.R r b=0:=fun b hb=>h.zero r b u o hb
  have hQ:∀ i j,(if i<k+1 then Hc (fun i=>s.R (xch k r i)) k c i j else t.S (xch k r i)*Hc (fun i=>s.R (xch k r i)) k c i j)=W9 (fun i j=>if xch k r i<k then s.R (xch k r i) j else t.S (xch k r i)*s.R (xch k r i) j) k c i j:=by
   intro i j
   unfold Hc W9
   by_cases e:i=k
   ·grind
   ·simp only [iN e,xk,iN (show ¬ r<k from o)]
    by_cases d:i<k
    ·rw [iP (show i<k+1 from o),Na a.1 d,iP d,iP d]
     grind
    ·have V:¬ xch k r i<k:=by have:=A22 (i:=i) a.1 o;omega
     grind
  have aa:(fun i j=>if i<k+1 then Hc (fun i=>s.R (xch k r i)) k c i j else t.S (xch k r i)*Hc (fun i=>s.R (xch k r i)) k c i j)=W9 (fun i j=>if xch k r i<k then s.R (xch k r i) j else t.S (xch k r i)*s.R (xch k r i) j) k c:=by
   grind
  have q:∀ i,i<n->xch k r i<n:=fun i d=>Sa f u d
  refine ⟨rfl,⟨fun i=>B (xch k r i),fun i j d C=>X _ j (q i d) C,?_,?_⟩,L,fun i j d C=>?_,fun i d=>h.scale _ (q i d),fun i j d H C=>?_,?_,fun W=>?_,fun W _=>?_,?_⟩
  ·show Elim n w _ (fun i j=>if i<(s.cs++[c]).length then Hc (fun i=>s.R (xch k r i)) k c i j else t.S (xch k r i)*Hc (fun i=>s.R (xch k r i)) k c i j) _ (s.cs++[c]).length
   rw [p,aa]
   exact E3
  ·grind
  ·show (clr (fun i=>t.M (xch k r i)) k c t.last i j:Rat)=(t.M r c:Rat)*(if i<(s.cs++[c]).length then Hc (fun i=>s.R (xch k r i)) k c i j else t.S (xch k r i)*Hc (fun i=>s.R (xch k r i)) k c i j)
   rw [p,hQ i j]
   unfold clr
   by_cases e:i=k
   ·subst e
    rw [iP rfl]
    show (t.M (xch i r i) j:Rat)=_
    unfold W9
    have:=h.val r j u C
    grind
   ·rw [iN e]
    show (((t.M (xch k r k) c*t.M (xch k r i) j-t.M (xch k r i) c*t.M (xch k r k) j).tdiv t.last:Int):Rat)=_
    rw [xk]
    have hw:=E3.whole (fun i j d C=>X _ j (q i d) C) d C
    rw [O] at hw
    obtain ⟨z,T⟩:=hw
    have v1:=h.val (xch k r i) j (q i d) C
    have v2:=h.val (xch k r i) c (q i d) hc
    have v3:=h.val r j u C
    have V:t.M r c*t.M (xch k r i) j-t.M (xch k r i) c*t.M r j=t.last*z:=by
     have:((t.M r c*t.M (xch k r i) j-t.M (xch k r i) c*t.M r j:Int):Rat)=((t.last*z:Int):Rat):=by
      rw [Rat.intCast_sub,aT,aT,aT,<- T,v1,v2,v3,F]
      unfold W9
      grind
     exact_mod_cast this
    rw [Qf h.last V,<- T]
  ·show Hc (fun i=>s.R (xch k r i)) k c i j=0
   have ad:k+1<=i:=by
    grind
   have ae:=A22 (i:=i) a.1 (show k<=i from o)
   unfold Hc
   rw [iN o]
   by_cases e:j=c
   ·grind
   ·rw [iP (.inr o)]
    exact h.zero _ j (q i d) o o
  ·show (s.cs++[c]).length<=c+1
   have:=h.asc
   omega
  ·show (if r=k then s.det else -s.det)*s.R r c*pr (s.cs++[c]).length (fun i=>t.S (xch k r i))=((if r=k then t.sgn else -t.sgn:Int):Rat)*(t.M r c:Rat)
   have ag:k=c:=by
    grind
   have hd:=h.det o
   rw [p,pr,xk,A17 (g:=t.S) fun i d=>by rw [Na a.1 d],F]
   by_cases e:r=k
   ·grind
   ·rw [iN e,iN e,Rat.intCast_neg];grind
  ·show (if r=k then s.det else -s.det)*s.R r c=0
   have:(s.cs++[c]).length<c+1:=W
   have hd:=h.miss o o
   grind
  ·show (if r=k then t.sgn else -t.sgn)=1\/(if r=k then t.sgn else -t.sgn)= -1
   have:=h.sgn
   omega
 ·rw [iN u,iN u]
  have y:∀ i j,i<n->s.cs.length<=i->j<c+1->s.R i j=0:=by
   intro i j d H C
   by_cases e:j=c
   ·grind
   ·exact h.zero i j d H o
  by_cases f:s.cs.length<n
  ·rw [iP f]
   exact ⟨h.cs,⟨B,X,E,hD⟩,h.last,h.val,h.scale,y,Nat.le_succ_of_le h.asc,fun W=>by have:=h.asc;grind,fun _ _=>rfl,h.sgn⟩
  ·rw [iN f]
   exact ⟨h.cs,⟨B,X,E,hD⟩,h.last,h.val,h.scale,y,Nat.le_succ_of_le h.asc,fun W=>by have:=h.asc;omega,fun _ V=>absurd V f,h.sgn⟩
def ERel.run{n w:Nat}{A:Nat->Nat->Rat}{s:ES}{t:PS}(h:ERel n w 0 A s t):∀ c,c<=w->ERel n w c A (A7k n s c) (Be n t c):=by
 intro c
 induction c with
 | zero=>exact fun _=>h
 | succ c ih=>exact fun a=>(ih o).step o
end Go.Proofs.YtdphgbjaijlckaaGreatDoor
namespace Go.Proofs.YtdphgbjaijlckaaGreatDoor
set_option maxRecDepth 20000
structure SzE (n w m:Nat) (s:ES):Prop where
 R:∀ a b,a<n->b<w->Sz (7^s.cs.length*m) (s.R a b)
 det:Sz (7^s.cs.length*m) s.det
 len:s.cs.length<=n
def A1x{m:Nat}{x d:Int}(h:ZB m x):ZB m (x.tdiv d):=by
 refine h.le ?_
 rw [Int.natAbs_tdiv]
 exact cY _ _
def ZB.clr{n w k j m:Nat}{M:Nat->Nat->Int}{d:Int}(hM:∀ a b,a<n->b<w->ZB m (M a b))(hk:k<n)(hj:j<w){a b:Nat}(ha:a<n)(hb:b<w):ZB (2*m+1) (clr M k j d a b):=by
 unfold Go.Proofs.YtdphgbjaijlckaaGreatDoor.clr
 split
 ·exact (hM k b hk hb).mono o
 ·refine A1x ?_
  have c:=(hM k j hk hj).mul (hM a b ha hb)
  have e:=(hM a j ha hj).mul (hM k b hk hb)
  exact (c.sub e).mono o
def Ql(n c:Nat)(s:PS)(h:s.cs.length<=n):s.cs.length<=Jj n c s/\Jj n c s<=n:=by
 have:=Ym (fun i=>decide (s.M i c≠0)) (n-s.cs.length) s.cs.length
 unfold Jj
 omega
structure ZbP (n w m l:Nat) (s:PS):Prop where
 M:∀ a b,a<n->b<w->ZB (3^s.cs.length*m) (s.M a b)
 last:ZB (3^s.cs.length*m) s.last
 S:∀ a,a<n->Sz l (s.S a)
 len:s.cs.length<=n
def Lh(k m:Nat)(hm:1<=m):1<=3^k*m:=by
 have:0<3^k:=Nat.pow_pos dc
 exact Nat.mul_pos this hm
def ZbP.step{n w m l c:Nat}{s:PS}(h:ZbP n w m l s)(hm:1<=m)(hc:c<w):ZbP n w m l (Bn n c s):=by
 have k:=Ql n c s h.len
 have p:=Lh s.cs.length m hm
 unfold Bn
 by_cases f:Jj n c s<n
 ·rw [iP f]
  have g:s.cs.length<n:=o
  have e:(s.cs++[c]).length=s.cs.length+1:=by simp
  have j:3^(s.cs.length+1)*m=3*(3^s.cs.length*m):=gz0
  refine ⟨fun a b d i=>?_,?_,fun a d=>h.S _ (Sa g f d),?_⟩
  ·show ZB (3^(s.cs++[c]).length*m) _
   rw [e,j]
   exact (ZB.clr (n:=n) (w:=w) (fun a b d i=>h.M _ b (Sa g f d) i) g hc d i).mono o
  ·show ZB (3^(s.cs++[c]).length*m) (s.M (Jj n c s) c)
   rw [e,j]
   exact (h.M _ c f hc).mono o
  grind
 grind
def ZbP.run{n w m l:Nat}{s:PS}(h:ZbP n w m l s)(hm:1<=m):∀ c,c<=w->ZbP n w m l (Be n s c):=by
 intro c
 induction c with
 | zero=>exact fun _=>h
 | succ c ih=>exact fun a=>(ih o).step hm o
structure Asc (l:List Nat) (c:Nat):Prop where
 lt:∀ x∈l,x<c
 asc:l.Pairwise (· < ·)
def Dj(z:Int)(l:List aR):iAt (I z::l) 0=z:=rfl
def Ub:prog.cellsOf 44=4/\(prog.info? 44).isSome=true:=Nm
def Wl:prog.cellsOf 93=4/\(prog.info? 93).isSome=true:=Kt
section
variable {α β:Type} [E:Enc α] {R:aD->α->β->Prop}
def OwnK(R:aD->α->β->Prop)(h h':aD)(b n k:Nat)(f:Nat->β):Prop:=∃ g o xs,h.le g/\Sep h' g o/\RowX o b xs/\xs.length=n/\Row R g xs k f
def OwnK.zero{h:aD}{b n:Nat}{f:Nat->β}{e:aO}{z:α}(hb:h b=none):OwnK R h (A4m e h b (aE n z)) b n 0 f:=
 ⟨h,Gq.put b (.cells ((aE n z).flatMap enc).toArray e),aE n z,B3 _,Kj hb,RowX.mk,by simp,Row.nil⟩
def OwnK.store(m:Mon R){P:cH}{t:aO}(one:P.cellsOf t=E.default.size/\(P.info? t).isSome=true){h h' g g' o:aD}{b n k:Nat}{f:Nat->β}{xs:List α}(lg:h.le g)(lg':g.le g')(s:Sep h' g' o)(rb:RowX o b xs)(hn:xs.length=n)(r:Row R g xs k f)(hk:k<n){v:aR}{y:α}(hv:v.cells=(enc y).toArray)(hy:R g' y (f k)){K:Unit->aD->Prop}
 (x:∀ h2,OwnK R h h2 b n (k+1) f->K () h2):wpH P (aS t (.pointer (some (aC ⟨b,0,none⟩ (k*E.default.size)))) v) K h':=by
 refine Gd one hv s rb oo ?_
 intro h2 d i e c a
 exact x h2 ⟨g',d,_,A0 lg lg',c,a,gz0,(r.mono m lg').set oo hy⟩
end
def Vt:QV:=⟨false,none,0,0,false,none,0,0⟩
section
variable {h:aD} {K:VP} {A:Option aG} {n c m:Nat} {ls:Nat->List UInt8} {f:Nat->Rat} {a w:QV} {q:Rat}
def Nr(gl:Gl h)(r:RowV SSr h A n ls)(hn:n<=1000000)(hl:∀ i,i<n->(ls i).length<=140737488351232)
 (hK1:(∀ i,i<n->dA (ls i))->∀ b h',Own RQr h h' b n (fun i=>rv (ls i))->K (.tuple #[.slice (some ⟨b,0,none⟩) n n,.bool true]) h')
 (hK0:¬ (∀ i,i<n->dA (ls i))->∀ h',h.le h'->K (.tuple #[.slice none 0 0,.bool false]) h'):aN prog 94 #[.slice A n c] h K:=by
 refine (fnk func94 [(3,[14],[],[I 0])] (own:=[7])) ?_
 refine T9 A90 (zx:=Vt) rfl oo oo oo oo ?_
 intro b M
 refine ⟨_,_,_,rfl,fun L u=>∃ k:Nat,k<=n/\L=[I k]/\(∀ i,i<k->dA (ls i))/\OwnK RQr h u b n k (fun i=>rv (ls i)),fun L _=>n-(iAt L 0).toNat,⟨0,oo,rfl,fun i R=>oo,OwnK.zero M⟩,?_⟩
 rintro t u ⟨k,T,V,l,g,o,O,f,s,D,E,C⟩
 obtain rfl:t=(k:Int):=gz0
 refine B5 (fun H=>?_) (fun F=>?_)
 ·have d:k<n:=oo
  obtain ⟨a,rfl,S⟩:=(r.mono R2 (A0 f s.le)).sat d
  refine ⟨a,rfl,oo,oo,_,S,?_⟩
  refine s.call (Uh (gl.mono f).tz (hl k d) ?_ ?_)
  ·intro q e w B x G z p
   refine ⟨_,_,_,_,_,_,_,_,_,rfl,_,rfl,oo,oo,?_⟩
   refine OwnK.store El Wl (y:=w) f x p D E C d rfl (by show RQ B w (rv (ls k));rw [e,Sk];exact G) ?_
   intro W Q
   rw [wiS k oo]
   refine ⟨⟨k+1,oo,rfl,fun i R=>?_,Q⟩,?_⟩
   ·by_cases N:i=k
    ·subst N;exact ⟨q,e⟩
    grind
   ·simp only [Dj];omega
  ·intro m w B x _ z p
   exact ⟨_,_,_,_,_,_,_,_,_,rfl,hK0 (fun j=>m (j k d)) z (A0 f (A0 x p.le))⟩
 ·have:k=n:=oo
  subst this
  exact hK1 l b u ⟨g,o,O,f,s,D,E,C⟩
def Nn(gl:Gl h)(r:RowV RQr h A n f)(hn:n<=1000000)(hs:∀ i,i<n->Sz m (f i))(hm:m<=40000000)
 (hK:∀ b h',Own SSr h h' b n (fun i=>K9 (f i))->K (.slice (some ⟨b,0,none⟩) n n) h'):aN prog 173 #[.slice A n c] h K:=by
 refine (fnk func173 [(3,[11],[],[I 0])] (own:=[5])) ?_
 refine T9 L0 (zx:=([]:List UInt8)) rfl oo oo oo oo ?_
 intro b D
 refine ⟨_,_,_,rfl,fun L j=>∃ k:Nat,k<=n/\L=[I k]/\OwnK SSr h j b n k (fun i=>K9 (f i)),fun L _=>n-(iAt L 0).toNat,⟨0,oo,rfl,OwnK.zero D⟩,?_⟩
 rintro t j ⟨k,O,Q,g,o,H,e,s,p,q,l⟩
 obtain rfl:t=(k:Int):=gz0
 refine B5 (fun C=>?_) (fun u=>?_)
 ·have d:k<n:=oo
  obtain ⟨a,w,rfl,z,G,F,x,B⟩:=(r.mono El e).qat d
  refine ⟨_,rfl,oo,oo,_,_,_,_,_,_,_,_,C4 s.le G,C4 s.le F,C4 s.le x,C4 s.le B,?_⟩
  refine s.call (Gm (gl.mono e).p10 z (hs k d) hm ?_)
  intro N E
  refine ⟨_,rfl,_,rfl,oo,oo,?_⟩
  refine OwnK.store R2 Bm (y:=K9 (f k)) e (B3 _) E p q l d rfl rfl ?_
  intro R M
  rw [wiS k oo]
  exact ⟨⟨k+1,oo,rfl,M⟩,by simp only [Dj];omega⟩
 ·have:k=n:=oo
  subst this
  exact hK b j ⟨g,o,H,e,s,p,q,l⟩
def Xr(r:RowV SSr h A n ls)(hn:n<=1000000)(hl:∀ i,i<n->(ls i).length<=140737488351232)
 (hK1:(∀ i,i<n->dA (ls i))->∀ b h',Own NQr h h' b n (fun i=>rv (ls i))->K (.tuple #[.slice (some ⟨b,0,none⟩) n n,.bool true]) h')
 (hK0:¬ (∀ i,i<n->dA (ls i))->∀ h',h.le h'->K (.tuple #[.slice none 0 0,.bool false]) h'):aN prog 52 #[.slice A n c] h K:=by
 refine (fnk func52 [(3,[5],[],[I 0])] (own:=[6])) ?_
 refine T9 A59 (zx:=Vt) rfl oo oo oo oo ?_
 intro b M
 refine ⟨_,_,_,rfl,fun L u=>∃ k:Nat,k<=n/\L=[I k]/\(∀ i,i<k->dA (ls i))/\OwnK NQr h u b n k (fun i=>rv (ls i)),fun L _=>n-(iAt L 0).toNat,⟨0,oo,rfl,fun i R=>oo,OwnK.zero M⟩,?_⟩
 rintro t u ⟨k,T,V,j,g,o,O,l,s,D,E,C⟩
 obtain rfl:t=(k:Int):=gz0
 refine B5 (fun H=>?_) (fun F=>?_)
 ·have d:k<n:=oo
  obtain ⟨a,rfl,S⟩:=(r.mono R2 (A0 l s.le)).sat d
  refine ⟨a,rfl,oo,oo,_,S,?_⟩
  refine s.call (Wv (hl k d) ?_ ?_)
  ·intro q e w B x G z p
   refine ⟨_,_,_,_,_,_,_,_,_,rfl,_,rfl,oo,oo,?_⟩
   refine OwnK.store Od Ub (y:=w) l x p D E C d rfl (by show NQ B w (rv (ls k));rw [e,Sk];exact G) ?_
   intro W Q
   rw [wiS k oo]
   refine ⟨⟨k+1,oo,rfl,fun i R=>?_,Q⟩,?_⟩
   ·by_cases N:i=k
    ·subst N;exact ⟨q,e⟩
    grind
   ·simp only [Dj];omega
  ·intro m w B x z p
   exact ⟨_,_,_,_,_,_,_,_,_,rfl,hK0 (fun f=>m (f k d)) z (A0 l (A0 x p.le))⟩
 ·have:k=n:=oo
  subst this
  exact hK1 j b u ⟨g,o,O,l,s,D,E,C⟩
def Tw(r:RowV NQr h A n f)(hn:n<=1000000)(hs:∀ i,i<n->Sz m (f i))(hm:m<=1000000000)
 (hK:∀ b h',Own SSr h h' b n (fun i=>K9 (f i))->K (.slice (some ⟨b,0,none⟩) n n) h'):aN prog 56 #[.slice A n c] h K:=by
 refine (fnk func56 [(3,[4],[],[I 0])]) ?_
 refine T9 L0 (zx:=([]:List UInt8)) rfl oo oo oo oo ?_
 intro b D
 refine ⟨_,_,_,rfl,fun L j=>∃ k:Nat,k<=n/\L=[I k]/\OwnK SSr h j b n k (fun i=>K9 (f i)),fun L _=>n-(iAt L 0).toNat,⟨0,oo,rfl,OwnK.zero D⟩,?_⟩
 rintro t j ⟨k,O,Q,g,o,H,e,s,p,q,l⟩
 obtain rfl:t=(k:Int):=gz0
 refine B5 (fun C=>?_) (fun u=>?_)
 ·have d:k<n:=oo
  obtain ⟨a,w,rfl,z,G,F,x,B⟩:=(r.mono Od e).qat d
  refine ⟨_,rfl,oo,oo,_,_,_,_,_,_,_,_,C4 s.le G,C4 s.le F,C4 s.le x,C4 s.le B,?_⟩
  refine s.call (Wg z (hs k d) oo ?_)
  intro N E
  refine ⟨_,rfl,_,rfl,oo,oo,?_⟩
  refine OwnK.store R2 Bm (y:=K9 (f k)) e (B3 _) E p q l d rfl rfl ?_
  intro R M
  rw [wiS k oo]
  exact ⟨⟨k+1,oo,rfl,M⟩,by simp only [Dj];omega⟩
 ·have:k=n:=oo
  subst this
  exact hK b j ⟨g,o,H,e,s,p,q,l⟩
def Oi(f:Nat->Rat):Nat->Nat
 | 0=>1
 | n+1=>Nat.lcm (Oi f n) (f n).den
def A1b(f:Nat->Rat):∀ n,0<Oi f n:=by
 intro n
 induction n with
 | zero=>exact Nat.one_pos
 | succ n ih=>exact Nat.lcm_pos ih (f n).den_pos
def A1c(f:Nat->Rat):∀ n i,i<n->(f i).den∣Oi f n:=by
 intro n
 induction n with
 | zero=>omega
 | succ n ih=>
  intro i a
  by_cases e:i=n
  ·subst e;exact Nat.dvd_lcm_right _ _
  ·exact Nat.dvd_trans (ih i o) (Nat.dvd_lcm_left _ _)
def ZB.lcm{k j:Nat}{x y:Nat}(hx:ZB k (x:Int))(hy:ZB j (y:Int)):ZB (k+j) ((Nat.lcm x y:Nat):Int):=by
 have:=hx.mul hy
 refine Nat.lt_of_le_of_lt ?_ this
 exact cY _ _
def Lm{f:Nat->Rat}{m:Nat}: ∀ n,(∀ i,i<n->Sz m (f i))->ZB (1+n*m) (Oi f n:Int):=by
 intro n
 induction n with
 | zero=>intro _;exact ZB.one o
 | succ n ih=>
  intro h
  have:=(ih fun i a=>h i o).lcm (h n o).den
  exact this.mono gz0
def Jn(gl:Gl h)(r:RowV RQr h A n f)(hn:n<=1000000)(hs:∀ i,i<n->Sz m (f i))(hm:1+n*m+m<=6400000000)
 (hK:∀ s A' n' c' h',h.le h'->ZI h' s A' n' c' (Oi f n:Int)->K (.agg #[.bool s,.slice A' n' c']) h'):aN prog 208 #[.slice A n c] h K:=by
 refine (fnk func208 [(3,[9],[(3,2)],[I 0,.bool false,.slice none 0 0])] (own:=[2,3,5])) ?_
 refine Dr o o ?_
 intro s1 A1 n1 c1 C l1 i1
 refine ⟨_,_,_,_,rfl,fun L y=>∃ (k:Nat) (s:Bool) (B:Option aG) (q u:Nat),k<=n/\L=[I k,.bool s,.slice B q u]/\h.le y/\ZI y s B q u (Oi f k:Int),fun L _=>n-(iAt L 0).toNat,⟨0,_,_,_,_,o,rfl,l1,i1⟩,?_⟩
 rintro t s B q u y ⟨k,D,B',p,j,hk,W,l,i⟩
 obtain ⟨rfl,rfl,rfl,rfl,rfl⟩:=W
 have H:B7 ((k:Int)+1)=((k+1:Nat):Int):=by rw [B6]<;>omega
 refine B5 (fun R=>?_) (fun N=>?_)
 ·have x:k<n:=o
  obtain ⟨a,w,rfl,F,X,T,O,Q⟩:=(r.mono El l).qat x
  have d:1+k*m+m<=6400000000:=by
   have:k*m<=n*m:=aI _ o
   omega
  have S:=(Lm k fun i hi=>hs i o).mono (show 1+k*m<=1+k*m+m from o)
  have M:=(hs k x).den.mono (show m<=1+k*m+m from o)
  refine ⟨_,rfl,o,o,_,_,_,_,_,_,_,_,X,T,O,Q,?_⟩
  refine F7 F.den ⟨_,rfl,?_⟩
  have z:((if (f k).den=1 then 0 else ((f k).den:Int))=0)↔(f k).den=1:=by
   have:=(f k).den_pos
   omega
  have g:Oi f (k+1)=Oi f k->(∃ (k':Nat) (D:Bool) (B':Option aG) (p j:Nat),k'<=n/\[I (B7 ((k:Int)+1)),.bool s,.slice B q u]=[I k',.bool D,.slice B' p j]/\h.le y/\ZI y D B' p j (Oi f k':Int))/\n-(iAt [I (B7 ((k:Int)+1)),.bool s,.slice B q u] 0).toNat<n-(iAt [I (k:Int),.bool s,.slice B q u] 0).toNat:=by
   intro e
   rw [H]
   exact ⟨⟨k+1,_,_,_,_,o,rfl,l,gz0⟩,by simp only [Dj];omega⟩
  refine Br.not (B5 (fun C=>?_) (fun C=>?_))
  ·have E:=z.1 C
   exact g (by rw [Oi,E];grind)
  ·have E:(if (f k).den=1 then 0 else ((f k).den:Int))=((f k).den:Int):=iN fun e=>C (z.2 e)
   have b:=F.den
   rw [E] at b
   refine Px b i M d ⟨_,rfl,?_⟩
   refine Br.not (B5 (fun G=>?_) (fun G=>?_))
   ·have V:(f k).den=Oi f k:=by exact_mod_cast G
    exact g (by rw [Oi,V];grind)
   ·refine Vs (gl.mono l).tz i b S M d ?_
    intro A' n' c' h' l' i'
    refine ⟨_,_,_,_,rfl,?_⟩
    rw [H]
    refine ⟨⟨k+1,_,_,_,_,o,rfl,A0 l l',?_⟩,by simp only [Dj];omega⟩
    assumption
 grind
def scl(q:Rat)(d:Int):Int:=q.num*d.tdiv q.den
def A45(q:Rat):q*(q.den:Rat)=(q.num:Rat):=by
 have h:=Rat.num_divInt_den q
 rw [bV] at h
 have a:((q.den:Int):Rat)≠0:=W5 (den_ne q)
 have e:((q.den:Int):Rat)=(q.den:Rat):=rfl
 grind
def A5d{q:Rat}{d:Int}(h:(q.den:Int)∣d):(scl q d:Rat)=q*d:=by
 obtain ⟨e,rfl⟩:=h
 unfold scl
 rw [Int.mul_tdiv_cancel_left _ (den_ne q),aT,aT]
 have a:q*(q.den:Rat)=(q.num:Rat):=A45 q
 have b:(((q.den:Nat):Int):Rat)=(q.den:Rat):=rfl
 grind
def A5c{q:Rat}{d:Int}{k:Nat}(hq:Sz m q)(hd:ZB k d):ZB (m+k) (scl q d):=hq.num.mul hd.tdiv
def Qk{s:Bool}{B:Option aG}{bn bc:Nat}{d:Int}(i:RQ h w q)(j:ZI h s B bn bc d)(hq:Sz m q)(hd:ZB m d)(hm:m<=6400000000)
 (hK:∀ s A' n' c' h',h.le h'->ZI h' s A' n' c' (scl q d)->K (.agg #[.bool s,.slice A' n' c']) h'):aN prog 161 #[w.v,.agg #[.bool s,.slice B bn bc]] h K:=by
 refine (fnk func161 (own:=[2,3,4])) ?_
 refine F7 i.den ⟨_,rfl,?_⟩
 have c:((if q.den=1 then 0 else (q.den:Int))=0)↔q.den=1:=by
  have:=q.den_pos
  omega
 refine B5 (fun f=>?_) (fun f=>?_)
 ·refine Bf i.num j hq.num hd o ?_
  intro r A' n' c' h' n z
  refine ⟨_,_,_,_,rfl,hK _ _ _ _ _ n ?_⟩
  have:scl q d=q.num*d:=by unfold scl;simp_all
  grind
 ·have l:(if q.den=1 then 0 else (q.den:Int))=(q.den:Int):=iN fun e=>f (c.2 e)
  have a:=i.den
  rw [l] at a
  refine S6 j a hd hq.den hm (den_ne q) ?_
  intro r A1 y c1 t b k
  refine ⟨_,_,_,_,rfl,b,?_⟩
  refine Bf (i.num.mono b) k hq.num hd.tdiv o ?_
  intro u A2 A c2 x g p
  exact ⟨_,_,_,_,rfl,g,hK _ _ _ _ _ (A0 b g) p⟩
end
instance:Enc Int:=⟨⟨fun z=>[I z],1,fun _=>rfl,fun z v hv=>by rw [List.mem_singleton.1 hv];rfl⟩⟩
abbrev IIr:aD->Int->Int->Prop:=fun _ w z=>w=z
section
variable {α:Type} [E:Enc α]
def OwnSl(o:aD)(e:aO)(A:Option aG)(c:Nat)(xs:List α):Prop:=
 xs.length<=c/\((c=0/\A=none)\/∃ b arr,A=some ⟨b,0,none⟩/\o b=some (.cells (bJ arr) e)/\arr.length=c*E.default.size/\arr.take (xs.length*E.default.size)=xs.flatMap enc)
def OwnSl.nil{o:aD}{e:aO}:OwnSl o e none 0 ([]:List α):=⟨aH _,.inl ⟨rfl,rfl⟩⟩
def OwnSl.keep{o o':aD}{e:aO}{A:Option aG}{c:Nat}{xs:List α}(w:OwnSl o e A c xs)(h:∀ b x,A=some ⟨b,0,none⟩->o b=some x->o' b=some x):OwnSl o' e A c xs:=by
 refine ⟨w.1,?_⟩
 rcases w.2 with g|⟨b,a,j,i,f,d⟩
 ·grind
 grind
def OwnSl.rowB{o:aD}{e:aO}{A:Option aG}{c:Nat}{xs:List α}(w:OwnSl o e A c xs)(hne:xs≠[]):∃ b,A=some ⟨b,0,none⟩/\RowB o b xs:=by
 rcases w.2 with j|⟨b,a,g,f,i,d⟩
 ·exfalso
  have:=w.1
  simp_all
 ·exact ⟨b,g,e,a.drop (xs.length*E.default.size),by rw [f,<- d,aV]⟩
def OwnSl.slF{o h:aD}{e:aO}{A:Option aG}{c:Nat}{xs:List α}(w:OwnSl o e A c xs)(hl:o.le h):SlF h A xs:=by
 by_cases a:xs=[]
 ·rw [a];exact SlF.nil
 ·obtain ⟨b,rfl,r⟩:=w.rowB a
  exact r.slF hl
def OwnSl.priv{h g o:aD}{e:aO}{A:Option aG}{c:Nat}{xs:List α}(s:Sep h g o)(w:OwnSl o e A c xs):∃ gb,PrivF h gb e A c xs/\∀ k x,h k=some x->A≠some ⟨k,0,none⟩->gb k=some x:=by
 rcases w.2 with ⟨l,j⟩|⟨b,a,n,m,i,f⟩
 ·subst l
  have p:xs=[]:=List.eq_nil_of_length_eq_zero (by have:=w.1;omega)
  subst p
  exact ⟨h,PrivF.nil h e A,fun k x e _=>e⟩
 ·refine ⟨h.without b,⟨I7 xs,w.1,.inr ⟨b,a,n,Q4 _ _,(J5 (s.own b _ m)).symm,i,f⟩⟩,fun k x e d=>?_⟩
  unfold Heap.without
  grind
def OwnSl.push{P:cH}{t e ty:aO}{z:aR}{bytes:Nat}(st:cO P t e z E.default.size bytes){h g o:aD}{A:Option aG}{c:Nat}{xs:List α}(s:Sep h g o)(w:OwnSl o e A c xs){v:aR}{y:α}(hv:v.cells=(enc y).toArray)(hsz:E.default.size<=1000)
 (hb:(2*(xs.length+1)+192)*bytes<=281474976710656) (hn:xs.length+1<=9223372036854775807) {K1:aD->Prop} {K:Option aG->Nat->Nat->aD->Prop}
 (x0:∀ h1,h.le h1->K1 h1)
 (x:∀ A' c' h' g' o',g.le g'->Sep h' g' o'->OwnSl o' e A' c' (xs++[y])->(∀ k u,o k=some u->A≠some ⟨k,0,none⟩->o' k=some u/\A'≠some ⟨k,0,none⟩)->K A' (xs.length+1) c' h'):
 wpH P (bN t 1 #[(0,v)]) (fun v' hp=>∃ (B:Option aG) (m d:Nat),v'= .slice B m d/\K1 hp/\wpH P (aZ #[t,t] ty #[.slice A xs.length c,.slice B m d]) (fun v1 hp1=>∃ (A':Option aG) (n' c':Nat),v1= .slice A' n' c'/\K A' n' c' hp1) hp) h:=by
 obtain ⟨S,p,M⟩:=w.priv s
 refine If st (vs:=[v]) (fun u hu=>by rw [List.mem_singleton.1 hu,hv];simp [E.default.len]) rfl gz0 rfl ?_
 intro b f
 have L:[v].flatMap (fun v=>v.cells.toList)=[y].flatMap enc:=by simp [hv]
 rw [L]
 refine ⟨_,_,_,rfl,x0 _ (Heap.le_put _ f),?_⟩
 have p':PrivF (h.put b (.cells ([y].flatMap enc).toArray e)) (S.put b (.cells ([y].flatMap enc).toArray e)) e A c xs:=Priv.put p f _
 refine Gc st p' (ys:=[y]) rfl (Rq e h b [y]) hb hn ?_
 intro A' c' h' g' V hp
 refine ⟨_,_,_,rfl,?_⟩
 rw [bC]
 have q:∀ k u,h k=some u->A≠some ⟨k,0,none⟩->g' k=some u:=by
  intro k u a Q
  have j:k≠b:=gz0
  exact V k u (by rw [B4 _ _ j];grind)
 have H:∀ k u,g k=some u->A≠some ⟨k,0,none⟩:=by
  intro k u a r
  rcases w.2 with ⟨_,h0⟩|⟨n,l,i,C,_⟩
  ·grind
  ·rw [r] at i
   simp only [aP,aU,and_true] at i
   subst i
   rw [s.dis k _ C] at a;cases a
 rcases hp.2.2 with ⟨R,_⟩|⟨n,l,i,C,D,ha,T⟩
 ·exfalso
  have:=hp.2.1
  grind
 ·subst i
  let o':aD:=fun k=>if k=n then some (.cells (bJ l) e) else if A=some ⟨k,0,none⟩ then none else o k
  have O:o' n=some (.cells (bJ l) e):=gz0
  have ok:∀ k,k≠n->A≠some ⟨k,0,none⟩->o' k=o k:=fun k h1 G=>by grind
  let g2:aD:=fun k=>match o' k with|some _=>none|none=>h' k
  have X:∀ k u,o' k=some u->g2 k=none:=fun k u a=>by grind
  have gn:∀ k,o' k=none->g2 k=h' k:=fun k a=>by grind
  have F:∀ k u,k≠n->g' k=some u->h' k=some u:=fun k u h1 a=>by rw [D,B4 _ _ h1];exact a
  have N:∀ k u,o k=some u->A≠some ⟨k,0,none⟩->k≠n:=by
   rintro k u a G rfl
   have:=q k u (s.own k u a) G
   grind
  refine x _ c' h' g2 o' (fun k u a=>?_) ⟨fun k u a=>?_,fun k a=>(gn k a).symm,X⟩ ⟨hp.2.1,.inr ⟨n,l,rfl,O,ha,T⟩⟩ (fun k u a G=>?_)
  ·have W:o k=none:=by
    cases ho:o k with
    | none=>rfl
    | some y=>rw [s.dis k y ho] at a;cases a
   have r:=H k u a
   have e3:=q k u (s.le k u a) r
   grind
  ·by_cases j:k=n
   ·subst j
    rw [O] at a;cases a
    rw [D,B8]
   ·by_cases r:A=some ⟨k,0,none⟩
    ·grind
    ·rw [ok k j r] at a
     exact F k u j (q k u (s.own k u a) r)
  grind
end
structure Tb where
 bt:Nat
 bE:Nat
 bS:Nat
 rows:Nat
 cols:Nat
 cE:Nat
 cS:Nat
structure Tab (h g o:aD) (T:Tb) (M:Nat->Nat->Int) (S:Nat->Rat):Prop where
 sep:Sep h g o
 n1:T.bt≠T.bE
 n2:T.bt≠T.bS
 n3:T.bE≠T.bS
 head:∃ e,o T.bt=some (.cells #[I T.cols,.slice (some ⟨T.bE,0,none⟩) (T.rows*T.cols) T.cE,.slice (some ⟨T.bS,0,none⟩) T.rows T.cS] e)
 elems:∃ ws:List IV,RowB o T.bE ws/\ws.length=T.rows*T.cols/\∀ i j,i<T.rows->j<T.cols->∃ w,ws[i*T.cols+j]? = some w/\ZIr g w (M i j)
 scales:∃ ss:List QV,RowB o T.bS ss/\ss.length=T.rows/\Row RQr g ss T.rows S
 cE:T.rows*T.cols<=T.cE
 cS:T.rows<=T.cS
 small:T.rows<=10000/\T.cols<=10000
 pos:0<T.cols
def A8y(M:Nat->Nat->Int)(i j:Nat)(z:Int):Nat->Nat->Int:=fun a b=>if a=i/\b=j then z else M a b
def Gr{rows cols i j:Nat}(hi:i<rows)(hj:j<cols):i*cols+j<rows*cols:=by
 have:(i+1)*cols<=rows*cols:=aI _ hi
 grind
def A47{cols i j i' j':Nat}(hj:j<cols)(hj':j'<cols)(h:i*cols+j=i'*cols+j'):i=i'/\j=j':=by
 have a:(i*cols+j)/cols=i:=by rw [bU,cX o,bM hj,cD]
 have b:(i'*cols+j')/cols=i':=by rw [bU,cX o,bM hj',cD]
 grind
section
variable {h g o:aD} {T:Tb} {M:Nat->Nat->Int} {S:Nat->Rat} {K:VP} {m:Nat}
def Tab.next(t:Tab h g o T M S){h' g':aD}(s:Sep h' g' o)(l:g.le g'):Tab h' g' o T M S:=by
 refine ⟨s,t.n1,t.n2,t.n3,t.head,?_,?_,t.cE,t.cS,t.small,t.pos⟩
 ·obtain ⟨f,r,b,a⟩:=t.elems
  refine ⟨f,r,b,fun i j k c=>?_⟩
  obtain ⟨w,e,m⟩:=a i j k c
  exact ⟨w,e,Uq _ _ _ _ l m⟩
 ·obtain ⟨d,r,b,a⟩:=t.scales
  exact ⟨d,r,b,a.mono El l⟩
def Tab.congr(t:Tab h g o T M S){M':Nat->Nat->Int}{S':Nat->Rat}(hM:∀ i j,i<T.rows->j<T.cols->M i j=M' i j)(hS:∀ i,i<T.rows->S i=S' i):Tab h g o T M' S':=by
 refine ⟨t.sep,t.n1,t.n2,t.n3,t.head,?_,?_,t.cE,t.cS,t.small,t.pos⟩
 ·obtain ⟨d,r,b,a⟩:=t.elems
  grind
 ·obtain ⟨c,r,b,a⟩:=t.scales
  exact ⟨c,r,b,a.congr hS⟩
def Tab.c0(t:Tab h g o T M S):h.cell? (aC ⟨T.bt,0,none⟩ 0)=some (I T.cols):=by
 obtain ⟨e,a⟩:=t.head
 refine t.sep.cell ?_
 rw [D4];unfold Heap.cell?;grind
def Tab.c1(t:Tab h g o T M S):h.cell? (aC ⟨T.bt,0,none⟩ 1)=some (.slice (some ⟨T.bE,0,none⟩) (T.rows*T.cols) T.cE):=by
 obtain ⟨e,a⟩:=t.head
 refine t.sep.cell ?_
 rw [D4];unfold Heap.cell?;grind
def Tab.c2(t:Tab h g o T M S):h.cell? (aC ⟨T.bt,0,none⟩ 2)=some (.slice (some ⟨T.bS,0,none⟩) T.rows T.cS):=by
 obtain ⟨e,a⟩:=t.head
 refine t.sep.cell ?_
 rw [D4];unfold Heap.cell?;grind
def Tab.at(t:Tab h g o T M S){i j:Nat}(hi:i<T.rows)(hj:j<T.cols):∃ w:IV,ZIr g w (M i j)/\h.cell? (aC (aC ⟨T.bE,i*T.cols*2,none⟩ (j*2)) 0)=some (.bool w.s)/\h.cell? (aC (aC ⟨T.bE,i*T.cols*2,none⟩ (j*2)) 1)=some (.slice w.A w.n w.c):=by
 obtain ⟨k,r,m,d⟩:=t.elems
 obtain ⟨w,e,l⟩:=d i j hi hj
 have f:=Gr hi hj
 have a:k[i*T.cols+j]=w:=by
  grind
 have b:i*T.cols*2+j*2=(i*T.cols+j)*2:=by rw [bF]
 refine ⟨w,l,t.sep.cell ?_,t.sep.cell ?_⟩
 ·rw [D4,D4,b]
  exact r.cell (i:=i*T.cols+j) oo (j:=0) (v:=.bool w.s) (by rw [a];rfl)
 ·rw [D4,D4,b]
  exact r.cell (i:=i*T.cols+j) oo (j:=1) (v:=.slice w.A w.n w.c) (by rw [a];rfl)
def Tab.ato(t:Tab h g o T M S){i j:Nat}(hi:i<T.rows)(hj:j<T.cols):∃ w:IV,ZIr g w (M i j)/\o.cell? (aC (aC ⟨T.bE,i*T.cols*2,none⟩ (j*2)) 0)=some (.bool w.s)/\o.cell? (aC (aC ⟨T.bE,i*T.cols*2,none⟩ (j*2)) 1)=some (.slice w.A w.n w.c):=by
 obtain ⟨k,r,m,d⟩:=t.elems
 obtain ⟨w,e,l⟩:=d i j hi hj
 have f:=Gr hi hj
 have a:k[i*T.cols+j]=w:=by
  grind
 have b:i*T.cols*2+j*2=(i*T.cols+j)*2:=by rw [bF]
 refine ⟨w,l,?_,?_⟩
 ·rw [D4,D4,b]
  exact r.cell (i:=i*T.cols+j) oo (j:=0) (v:=.bool w.s) (by rw [a];rfl)
 ·rw [D4,D4,b]
  exact r.cell (i:=i*T.cols+j) oo (j:=1) (v:=.slice w.A w.n w.c) (by rw [a];rfl)
def Sep.le_le{h' g':aD}(s:Sep h g o)(s':Sep h' g' o)(l:g.le g'):h.le h':=fun k x e=>by
 cases ho:o k with
 | some y=>rw [s.own k y ho] at e;rw [s'.own k y ho];exact e
 | none=>rw [s.rest k ho] at e;rw [s'.rest k ho];exact l k x e
def Tab.sat(t:Tab h g o T M S){i:Nat}(hi:i<T.rows):∃ w:QV,RQ g w (S i)/\h.cell? (aC (aC ⟨T.bS,0,none⟩ (i*4)) 0)=some (.bool w.s)/\h.cell? (aC (aC ⟨T.bS,0,none⟩ (i*4)) 1)=some (.slice w.A w.n w.c)/\h.cell? (aC (aC ⟨T.bS,0,none⟩ (i*4)) 2)=some (.bool w.s2)/\h.cell? (aC (aC ⟨T.bS,0,none⟩ (i*4)) 3)=some (.slice w.A2 w.n2 w.c2):=by
 obtain ⟨l,r,f,a⟩:=t.scales
 obtain ⟨w,e,b⟩:=a i hi
 have cell:∀ k v,(enc w)[k]? = some v->h.cell? (aC (aC ⟨T.bS,0,none⟩ (i*4)) k)=some v:=by
  intro k v d
  refine t.sep.cell ?_
  rw [D4,D4,aL]
  exact r.cell (i:=i) oo (j:=k) gz0
 exact ⟨w,b,cell 0 _ rfl,cell 1 _ rfl,cell 2 _ rfl,cell 3 _ rfl⟩
def Tab.store(t:Tab h g o T M S){i j:Nat}(hi:i<T.rows)(hj:j<T.cols){w:IV}{z:Int}(hz:ZIr g w z){K:Unit->aD->Prop}
 (x:∀ h' o',Tab h' g o' T (A8y M i j z) S->(∀ k,k≠T.bE->o' k=o k)->K () h'):wpH prog (aS 91 (.pointer (some (aC ⟨T.bE,i*T.cols*2,none⟩ (j*2)))) w.v) K h:=by
 obtain ⟨L,r,N,B⟩:=t.elems
 have p:=Gr hi hj
 have G:i*T.cols*2+j*2=(i*T.cols+j)*2:=by rw [bF]
 rw [D4,G]
 refine Sep.store (E:=inferInstanceAs (Enc IV)) Wk (v:=w.v) (y:=w) rfl t.sep r (i:=i*T.cols+j) oo rfl ?_
 intro h' o' H f n q
 refine x h' o' ⟨n,t.n1,t.n2,t.n3,?_,⟨_,q,gz0,fun a b l m=>?_⟩,?_,t.cE,t.cS,t.small,t.pos⟩ (fun k A=>by rw [f,B4 _ _ A])
 ·obtain ⟨e,F⟩:=t.head
  exact ⟨e,by rw [f,B4 _ _ t.n1];exact F⟩
 ·unfold A8y
  by_cases e:a=i/\b=j
  ·grind
  ·obtain ⟨u,D,O⟩:=B a b l m
   refine ⟨u,?_,gz0⟩
   rw [cL (fun x=>e (by have:=A47 hj m x;omega))]
   exact D
 ·obtain ⟨s,C,d,c⟩:=t.scales
  exact ⟨s,by rw [f];exact C.other t.n3.symm _,d,c⟩
def Tab.sstore(t:Tab h g o T M S){i:Nat}(hi:i<T.rows){w:QV}{q:Rat}(hz:RQ g w q){K:Unit->aD->Prop}
 (x:∀ h' o',Tab h' g o' T M (fun a=>if a=i then q else S a)->(∀ k,k≠T.bS->o' k=o k)->K () h'):wpH prog (aS 93 (.pointer (some (aC ⟨T.bS,0,none⟩ (i*4)))) w.v) K h:=by
 obtain ⟨z,r,u,j⟩:=t.scales
 rw [D4,aL]
 refine Sep.store (E:=inferInstanceAs (Enc QV)) Kt (v:=w.v) (y:=w) rfl t.sep r (i:=i) oo rfl ?_
 intro h' o' A c l n
 refine x h' o' ⟨l,t.n1,t.n2,t.n3,?_,?_,⟨_,n,gz0,Row.upd j oo hz⟩,t.cE,t.cS,t.small,t.pos⟩ (fun k m=>by rw [c,B4 _ _ m])
 ·obtain ⟨e,p⟩:=t.head
  exact ⟨e,by rw [c,B4 _ _ t.n2];exact p⟩
 ·obtain ⟨s,f,b,d⟩:=t.elems
  exact ⟨s,by rw [c];exact f.other t.n3 _,b,d⟩
def R7{n:Nat}(h:n<=9223372036854775807):B7 (n:Int)=(n:Int):=B6 oo oo
def Ck(t:Tab h g o T M S){i:Nat}(hi:i<T.rows)(hK:K (.slice (some ⟨T.bE,i*T.cols*2,none⟩) T.cols (T.cE-i*T.cols)) h):aN prog 212 #[.pointer (some ⟨T.bt,0,none⟩),I (i:Int)] h K:=by
 refine (fnk func212) ?_
 have a:=t.small
 have l:=t.pos
 have j:(i+1)*T.cols<=T.rows*T.cols:=aI _ hi
 have f:T.rows*T.cols<=10000*10000:=cK a.1 a.2
 have k:=t.cE
 have d:(i+1)*T.cols=i*T.cols+T.cols:=gz0
 have c:B7 ((i:Int)*(T.cols:Int))=((i*T.cols:Nat):Int):=by exact R7 oo
 have b:B7 ((i:Int)+1)=((i+1:Nat):Int):=B6 oo oo
 have e:B7 (B7 ((i:Int)+1)*(T.cols:Int))=(((i+1)*T.cols:Nat):Int):=by rw [b,<- cG];exact R7 oo
 refine ⟨_,rfl,_,_,_,t.c1,_,rfl,_,t.c0,_,rfl,_,t.c0,?_⟩
 rw [c,e]
 refine ⟨⟨oo,oo⟩,⟨oo,oo⟩,?_⟩
 simp only [aQ]
 rw [Iv oo,D4,aL,d,Nat.add_sub_cancel_left]
 exact hK
def Yp(t:Tab h g o T M S){start col:Nat}(hs:start<=T.rows)(hc:col<T.cols)
 (hK1:fnd (fun i=>decide (M i col≠0)) (T.rows-start) start<T.rows->K (.tuple #[I ((fnd (fun i=>decide (M i col≠0)) (T.rows-start) start:Nat):Int),.bool true]) h)
 (hK0:fnd (fun i=>decide (M i col≠0)) (T.rows-start) start=T.rows->K (.tuple #[I 0,.bool false]) h):aN prog 209 #[.pointer (some ⟨T.bt,0,none⟩),I (start:Int),I (col:Int)] h K:=by
 refine (fnk func209 [(2,[8],[],[I 0])]) ?_
 refine ⟨fun L d=>∃ k:Nat,k<=T.rows/\L=[I k]/\d=h/\start<=k/\∀ j,start<=j->j<k->decide (M j col≠0)=false,fun L _=>T.rows-(iAt L 0).toNat,⟨start,hs,rfl,rfl,aH _,fun j c f=>oo⟩,?_⟩
 rintro i d ⟨k,s,u,rfl,b,l⟩
 obtain rfl:i=(k:Int):=gz0
 refine ⟨_,rfl,_,_,_,t.c2,B5 (fun p=>?_) (fun m=>?_)⟩
 ·have a:k<T.rows:=oo
  refine Ck t a ⟨_,_,_,rfl,_,rfl,oo,oo,?_⟩
  obtain ⟨w,n,q,r⟩:=t.at a hc
  refine ⟨_,_,_,_,q,r,F7 (n.mono t.sep.le) ⟨_,rfl,Br.not (B5 (fun e=>?_) (fun e=>?_))⟩⟩
  ·rw [show B7 ((k:Int)+1)=((k+1:Nat):Int) by have:=t.small;rw [B6]<;>omega]
   refine ⟨⟨k+1,oo,rfl,rfl,oo,fun j c f=>?_⟩,by simp only [Dj];omega⟩
   grind
  ·have:fnd (fun i=>decide (M i col≠0)) (T.rows-start) start=k:=A2l _ b oo l (fun _=>gz0)
   grind
 ·have:fnd (fun i=>decide (M i col≠0)) (T.rows-start) start=T.rows:=A2l _ hs oo (fun j c f=>l j c oo) (fun x=>oo)
  grind
def Wm(t:Tab h g o T M S){i k:Nat}(hi:i<T.rows)(hk:k<T.rows)(hik:i≠k)
 (hK:∀ h' o',Tab h' g o' T (fun a=>M (xch i k a)) (fun a=>S (xch i k a))->(∀ b,b≠T.bE->b≠T.bS->o' b=o b)->K (.tuple #[]) h'):aN prog 210 #[.pointer (some ⟨T.bt,0,none⟩),I (i:Int),I (k:Int)] h K:=by
 refine (fnk func210 [(2,[17],[],[I 0])]) ?_
 refine Ck t hi ⟨_,_,_,rfl,Ck t hk ⟨_,_,_,rfl,?_⟩⟩
 refine ⟨fun L B=>∃ (c:Nat) (r:aD),c<=T.cols/\L=[I c]/\Tab B g r T (fun a b=>if b<c then M (xch i k a) b else M a b) S/\∀ b,b≠T.bE->r b=o b,fun L _=>T.cols-(iAt L 0).toNat,⟨0,o,oo,rfl,t.congr (fun a b _ _=>oo) (fun _ _=>rfl),fun _ _=>rfl⟩,?_⟩
 rintro z B ⟨c,r,hc,eL,t1,R⟩
 obtain rfl:z=(c:Int):=gz0
 refine B5 (fun G=>?_) (fun D=>?_)
 ·have d:c<T.cols:=oo
  obtain ⟨l,f,s,q⟩:=t1.at hk d
  obtain ⟨A,e,j,x⟩:=t1.at hi d
  rw [iN (cM c)] at f e
  refine ⟨_,rfl,oo,oo,_,_,_,_,s,q,_,rfl,oo,oo,_,_,_,_,j,x,_,rfl,oo,oo,?_⟩
  refine t1.store hi d (w:=l) f ?_
  intro H O m y
  refine ⟨_,rfl,oo,oo,?_⟩
  refine m.store hk d (w:=A) e ?_
  intro C u n p
  rw [show B7 ((c:Int)+1)=((c+1:Nat):Int) by have:=t.small;rw [B6]<;>omega]
  refine ⟨⟨c+1,u,oo,rfl,n.congr (fun a b _ _=>?_) (fun _ _=>rfl),fun b N=>gz0⟩,by simp only [Dj];omega⟩
  show (if a=k/\b=c then M i c else if a=i/\b=c then M k c else if b<c then M (xch i k a) b else M a b)=if b<c+1 then M (xch i k a) b else M a b
  unfold xch
  grind
 ·obtain ⟨l,f,s,q,E,F⟩:=t1.sat hk
  obtain ⟨A,e,j,x,Q,W⟩:=t1.sat hi
  refine ⟨_,rfl,_,_,_,t1.c2,_,rfl,_,_,_,t1.c2,_,rfl,_,_,_,t1.c2,_,rfl,oo,oo,_,_,_,_,_,_,_,_,s,q,E,F,_,rfl,_,_,_,t1.c2,_,rfl,oo,oo,_,_,_,_,_,_,_,_,j,x,Q,W,_,rfl,oo,oo,?_⟩
  refine t1.sstore hi (w:=l) f ?_
  intro H O m y
  refine ⟨_,rfl,oo,oo,?_⟩
  refine m.sstore hk (w:=A) e ?_
  intro C u n p
  refine hK C u (n.congr (fun a b _ N=>oo) (fun a _=>?_)) (fun b X V=>gz0)
  show (if a=k then S i else if a=i then S k else S a)=S (xch i k a)
  unfold xch
  grind
end
def Rn{P:cH}{t:aO}{v:aR}{K:VP}{h:aD}(x:∀ b,h b=none->K (.pointer (some ⟨b,0,none⟩)) (h.put b (.cells v.cells t))):wpH P (Instr.box t v) K h:=by
 exact x
def A42{m k:Nat}(hm:1<=m)(hk:k<4611686018427387904):(k:Int)*2^(2*m)<b64^m:=by
 have e:b64^m=(2:Int)^(2*m)*2^(62*m):=by
  have:b64=(2:Int)^64:=dc
  rw [this,<- Int.pow_mul,<- Int.pow_add]
  grind
 have a:(2:Int)^62<=2^(62*m):=C7 dc o
 have c:(k:Int)<2^62:=by
  omega
 have b:(0:Int)<2^(2*m):=bX dc
 rw [e,Int.mul_comm]
 exact Int.mul_lt_mul_of_pos_left (Int.lt_of_lt_of_le c a) b
def Xf{m:Nat}{x y:Int}(hx:ZB m x)(hy:ZB m y):((x*y).natAbs:Int)<=2^(2*m):=by
 have:=hx.mul hy
 unfold ZB at this
 grind
section
variable {h g o:aD} {T:Tb} {M:Nat->Nat->Int} {S:Nat->Rat} {K:VP} {m:Nat}
def A0m:(prog.info? 205).map (·.zero)=some (some (.agg #[.slice none 0 0,.slice none 0 0])):=by kernel_rfl
def Vd(t:Tab h g o T M S){i p c:Nat}{wb:IV}{d:Int}(hi:i<T.rows)(hp':p<T.rows)(hip:i≠p)(hc:c<T.cols)(ib:ZIr g wb d)(hd:d≠0)(hm1:1<=m)(hm:2*m+1<=100000000)(hMi:∀ b,b<T.cols->ZB m (M i b))(hMp:∀ b,b<T.cols->ZB m (M p b))(hdb:ZB m d)
 (hK:∀ h' g' o',g.le g'->Tab h' g' o' T (fun a b=>if a=i then (M p c*M i b-M i c*M p b).tdiv d else M a b) S->(∀ b,b≠T.bE->o' b=o b)->K (.tuple #[]) h'):aN prog 211 #[.pointer (some ⟨T.bt,0,none⟩),I (i:Int),I (p:Int),I (c:Int),wb.v] h K:=by
 refine (fnk func211 [(4,[28],[],[I 0])] (cs:=[(7,[],[],[])]) (os:=[(10,[0,1,3,2,4,5,6])]) (own:=[9,12,14]) (wr:=[220,254])) ?_
 refine Ck t hi ⟨_,_,_,rfl,Ck t hp' ⟨_,_,_,rfl,?_⟩⟩
 obtain ⟨wf,zf,f0,f1⟩:=t.at hi hc
 refine ⟨_,rfl,oo,oo,_,_,_,_,f0,f1,?_⟩
 refine ⟨fun L V=>∃ (k:Nat) (j l:aD),k<=T.cols/\L=[I k]/\g.le j/\Tab V j l T (fun a b=>if a=i/\b<k then (M p c*M i b-M i c*M p b).tdiv d else M a b) S/\∀ b,b≠T.bE->l b=o b,fun L _=>T.cols-(iAt L 0).toNat,⟨0,g,o,oo,rfl,B3 _,t.congr (fun a b _ _=>oo) (fun _ _=>rfl),fun _ _=>rfl⟩,?_⟩
 rintro z W ⟨k,j,l,hk,eL,F,t1,O⟩
 obtain rfl:z=(k:Int):=gz0
 have ew:B7 ((k:Int)+1)=((k+1:Nat):Int):=by have:=t.small;rw [B6]<;>omega
 refine B5 (fun ad=>?_) (fun ac=>?_)
 ·have f:k<T.cols:=oo
  obtain ⟨w1,R,d0,d1⟩:=t1.at hi f
  rw [iN oo] at R
  have q:(M p c*M i k-M i c*M p k).tdiv d=M i k->(∃ (k':Nat) (j l:aD),k'<=T.cols/\[I (B7 ((k:Int)+1))]=[I k']/\g.le j/\Tab W j l T (fun a b=>if a=i/\b<k' then (M p c*M i b-M i c*M p b).tdiv d else M a b) S/\∀ b,b≠T.bE->l b=o b)/\T.cols-(iAt [I (B7 ((k:Int)+1))] 0).toNat<T.cols-(iAt [I (k:Int)] 0).toNat:=by
   intro e
   rw [ew]
   refine ⟨⟨k+1,j,l,oo,rfl,F,t1.congr (fun a b _ _=>?_) (fun _ _=>rfl),O⟩,by simp only [Dj];omega⟩
   grind
  refine ⟨_,rfl,oo,oo,_,_,_,_,d0,d1,fun L V=>V=W,?_,?_⟩
  ·refine F7 (R.mono t1.sep.le) ⟨_,rfl,B5 (fun e1=>?_) (fun _=>rfl)⟩
   refine F7 (zf.mono (A0 F t1.sep.le)) ⟨_,rfl,B5 (fun e2=>q (by simp_all)) (fun _=>?_)⟩
   obtain ⟨w2,H,c0,c1⟩:=t1.at hp' f
   refine ⟨_,rfl,oo,oo,_,_,_,_,c0,c1,F7 (H.mono t1.sep.le) ⟨_,rfl,B5 (fun e3=>q (by simp_all)) (fun _=>rfl)⟩⟩
  ·rintro V rfl
   refine Fa A0m ?_
   intro bs r
   have ab:j bs=none:=by
    cases hx:j bs with
    | none=>rfl
    | some y=>rw [t1.sep.le _ _ hx] at r;cases r
   have X:=t1.sep.vis r (.cells #[.slice none 0 0,.slice none 0 0] 205)
   have Z0:SumS (j.put bs (.cells #[.slice none 0 0,.slice none 0 0] 205)) j bs 205 200000001 0 0:=SumS.zero ab
   obtain ⟨w3,z3,a0,a1⟩:=t1.ato hp' hc
   obtain ⟨w2,H,c0,c1⟩:=t1.ato hp' f
   rw [iN oo] at H z3
   have Q:∀ {gg:aD} {w:IV} {x:Int},ZIr gg w x->ZB m x->w.n<=100000000:=fun i b=>ZI.len i b oo
   have u:=hMp c hc
   have s:=hMi k f
   have C:=hMi c hc
   have A:=hMp k f
   have q1:=Xf u s
   have q2:=Xf C A
   have q0:=A42 (m:=m) (k:=2) hm1 oo
   have l3:=Q z3 u
   have l1:=Q R s
   have lf:=Q zf C
   have l2:=Q H A
   refine ⟨_,rfl,_,rfl,oo,oo,_,_,_,_,X.cell a0,X.cell a1,?_⟩
   refine X.call (An Z0 z3 R oo oo (N1:=m) oo oo ?_)
   intro G3 g3 D Z3 H3 s3
   refine ⟨rfl,_,rfl,oo,oo,_,_,_,_,s3.cell c0,s3.cell c1,?_⟩
   refine s3.call (Gy Z3 (zf.mono (A0 F D)) (H.mono D) oo oo (N1:=m) oo oo ?_)
   intro G4 g4 aa Z4 H4 s4
   refine ⟨rfl,s4.call (Ku Z4 oo ?_)⟩
   intro sv Av nv cv G5 G z5 H5 s5
   rw [Int.zero_add] at z5
   refine ⟨_,_,_,_,rfl,s4.le_le s5 G,?_⟩
   have E:j.le G5:=A0 D (A0 aa (A0 Z4.le G))
   have bz:ZB (2*m+1) (M p c*M i k-M i c*M p k):=((u.mul s).sub (C.mul A)).mono oo
   refine s5.call (S6 z5 (ib.mono (A0 F E)) bz (hdb.mono oo) oo hd ?_)
   intro s6 A6 n6 c6 G6 B z6 H6 N
   refine ⟨_,_,_,_,rfl,s5.le_le N B,_,rfl,oo,oo,?_⟩
   have t6:=t1.next N (A0 E B)
   refine t6.store hi f (w:=⟨s6,A6,n6,c6⟩) z6 ?_
   intro H7 o7 t7 ae
   rw [ew]
   refine ⟨⟨k+1,G6,o7,oo,rfl,A0 F (A0 E B),t7.congr (fun a b _ _=>?_) (fun _ _=>rfl),fun b hb=>gz0⟩,by simp only [Dj];omega⟩
   show (if a=i/\b=k then (M p c*M i k-M i c*M p k).tdiv d else if a=i/\b<k then (M p c*M i b-M i c*M p b).tdiv d else M a b)=_
   grind
 ·exact hK W j l F (t1.congr (fun a b _ hb=>by
   omega) (fun _ _=>rfl)) O
def A0v(n:Nat)(s:PS)(h:s.cs=[]):∀ c,(Be n s c).cs.length<=c:=by
 intro c
 induction c with
 | zero=>show s.cs.length<=0;grind
 | succ c ih=>
  show (Bn n c (Be n s c)).cs.length<=c+1
  unfold Bn
  grind
def Hw(n:Nat)(s:PS)(h:s.last≠0)(hs:s.sgn=1\/s.sgn= -1)(hl:s.cs.length<=n):∀ c,(Be n s c).last≠0/\((Be n s c).sgn=1\/(Be n s c).sgn= -1)/\(Be n s c).cs.length<=n:=by
 intro c
 induction c with
 | zero=>exact ⟨h,hs,hl⟩
 | succ c ih=>
  obtain ⟨d,f,b⟩:=ih
  show (Bn n c (Be n s c)).last≠0/\((Bn n c (Be n s c)).sgn=1\/(Bn n c (Be n s c)).sgn= -1)/\(Bn n c (Be n s c)).cs.length<=n
  have e:=Ql n c (Be n s c) b
  unfold Bn
  by_cases a:Jj n c (Be n s c)<n
  ·rw [iP a]
   have:=Rf (fun i=>decide ((Be n s c).M i c≠0)) (n-(Be n s c).cs.length) (Be n s c).cs.length (by unfold Jj at a;omega)
   refine ⟨by simpa [Jj] using this,?_,?_⟩
   ·grind
   grind
  grind
def Ry{α:Type}[E:Enc α]{P:cH}{t e ty:aO}{z:aR}{bytes:Nat}(st:cO P t e z E.default.size bytes){h g o:aD}{A:Option aG}{c n:Nat}{xs:List α}(s:Sep h g o)(w:OwnSl o e A c xs)(hxn:n=xs.length){v:aR}{y:α}(hv:v.cells=(enc y).toArray)(hsz:E.default.size<=1000)
 (hb:(2*(xs.length+1)+192)*bytes<=281474976710656) (hn:xs.length+1<=9223372036854775807) {K:Option aG->Nat->Nat->aD->Prop}
 (x:∀ A' c' h' g' o',g.le g'->Sep h' g' o'->OwnSl o' e A' c' (xs++[y])->(∀ k u,o k=some u->A≠some ⟨k,0,none⟩->o' k=some u/\A'≠some ⟨k,0,none⟩)->K A' (xs.length+1) c' h'):
 wpH P (bN t 1 #[(0,v)]) (fun v' hp=>∃ (B:Option aG) (m d:Nat),v'= .slice B m d/\wpH P (aZ #[t,t] ty #[.slice A n c,.slice B m d]) (fun v1 hp1=>∃ (A':Option aG) (n' c':Nat),v1= .slice A' n' c'/\K A' n' c' hp1) hp) h:=by
 refine Cg _ (OwnSl.push (ty:=ty) st s w hv hsz hb hn (K1:=fun _=>True) (K:=K) (fun _ _=>trivial) x) ?_
 grind
def Tab.own(t:Tab h g o T M S):(∃ x,o T.bt=some x)/\(∃ x,o T.bE=some x)/\∃ x,o T.bS=some x:=by
 obtain ⟨e,b⟩:=t.head
 obtain ⟨k,⟨a,j,f⟩,_⟩:=t.elems
 obtain ⟨d,⟨i,l,c⟩,_⟩:=t.scales
 grind
def Tab.keep(t:Tab h g o T M S){h' g' o':aD}(s:Sep h' g' o')(l:g.le g')(hk:∀ k x,o k=some x->k=T.bt\/k=T.bE\/k=T.bS->o' k=some x):Tab h' g' o' T M S:=by
 refine ⟨s,t.n1,t.n2,t.n3,?_,?_,?_,t.cE,t.cS,t.small,t.pos⟩
 ·obtain ⟨e,q⟩:=t.head
  grind
 ·obtain ⟨m,⟨e,ex,c⟩,b,a⟩:=t.elems
  refine ⟨m,⟨e,ex,hk _ _ c (.inr (.inl rfl))⟩,b,fun i j n d=>?_⟩
  obtain ⟨w,e,p⟩:=a i j n d
  exact ⟨w,e,Uq _ _ _ _ l p⟩
 ·obtain ⟨f,⟨e,ex,c⟩,b,a⟩:=t.scales
  exact ⟨f,⟨e,ex,hk _ _ c (.inr (.inr rfl))⟩,b,a.mono El l⟩
abbrev zs(l:List Nat):List Int:=l.map fun (n:Nat)=>(n:Int)
def A20(T:Tb)(A:Option aG):Prop:=A≠some ⟨T.bt,0,none⟩/\A≠some ⟨T.bE,0,none⟩/\A≠some ⟨T.bS,0,none⟩
def Nq(t:Tab h g o T M S){c l nq:Nat}(hc:c<=T.cols)(hm1:1<=m)(hnq:∀ k,k<=c->(Be T.rows ⟨M,S,[],1,1⟩ k).cs.length<=nq)(hm:2*(3^nq*m)+1<=100000000)(hz:ZbP T.rows T.cols m l ⟨M,S,[],1,1⟩)
 (hK:∀ h' g' o' A cap w,g.le g'->Tab h' g' o' T (Be T.rows ⟨M,S,[],1,1⟩ c).M (Be T.rows ⟨M,S,[],1,1⟩ c).S->OwnSl o' 3 A cap (zs (Be T.rows ⟨M,S,[],1,1⟩ c).cs)->A20 T A->(∀ k x,o k=some x->k≠T.bE->k≠T.bS->o' k=some x/\A≠some ⟨k,0,none⟩)->ZIr g' w (Be T.rows ⟨M,S,[],1,1⟩ c).last->
  K (.tuple #[.slice A (Be T.rows ⟨M,S,[],1,1⟩ c).cs.length cap,w.v,I (Be T.rows ⟨M,S,[],1,1⟩ c).sgn]) h'):aN prog 150 #[.pointer (some ⟨T.bt,0,none⟩),I (c:Int)] h K:=by
 refine (fnk func150 [(4,[7,9,17],[(8,2)],[.slice none 0 0,I 0,I 0,.bool false,.slice none 0 0]),(13,[45],[],[I 0])] (cs:=[(12,[9],[],[I 0])]) (own:=[5,8]) (wr:=[210,211])) ?_
 have ax:=t.small
 refine t.sep.call (Dr oo oo ?_)
 intro s1 A1 n1 c1 g1 l1 i1 h1 am
 have t1:=t.next am l1
 refine ⟨_,_,_,_,rfl,fun L hp=>∃ (k:Nat) (g' o':aD) (A:Option aG) (cap:Nat) (w:IV),k<=c/\L=[.slice A (Be T.rows ⟨M,S,[],1,1⟩ k).cs.length cap,I (Be T.rows ⟨M,S,[],1,1⟩ k).sgn,I k,.bool w.s,.slice w.A w.n w.c]/\g.le g'/\Tab hp g' o' T (Be T.rows ⟨M,S,[],1,1⟩ k).M (Be T.rows ⟨M,S,[],1,1⟩ k).S/\OwnSl o' 3 A cap (zs (Be T.rows ⟨M,S,[],1,1⟩ k).cs)/\A20 T A/\(∀ k x,o k=some x->k≠T.bE->k≠T.bS->o' k=some x/\A≠some ⟨k,0,none⟩)/\ZIr g' w (Be T.rows ⟨M,S,[],1,1⟩ k).last,
  fun L _=>c-(iAt L 2).toNat,⟨0,g1,o,none,0,⟨s1,A1,n1,c1⟩,oo,rfl,l1,t1,(OwnSl.nil:OwnSl o 3 none 0 ([]:List Int)),⟨by simp,by simp,by simp⟩,fun k x e _ _=>⟨e,by simp⟩,i1⟩,?_⟩
 rintro pA pn pc au z ls lA ln lc hp ⟨k,g2,o2,A,cap,w,hk,eL,lg,t2,ow,u,ko,iw⟩
 obtain ⟨⟨rfl,rfl,rfl⟩,rfl,rfl,rfl,rfl,rfl,rfl⟩:=eL
 have E:=Hw T.rows ⟨M,S,[],1,1⟩ (show (1:Int)≠0 from dc) (.inl rfl) (cJ _) k
 have D:=hz.run hm1 k oo
 refine B5 (fun az=>?_) (fun a4=>?_)
 ·have G:k<T.cols:=oo
  have ew:B7 ((k:Int)+1)=((k+1:Nat):Int):=by rw [B6]<;>omega
  have ai:Be T.rows ⟨M,S,[],1,1⟩ (k+1)=Bn T.rows k (Be T.rows ⟨M,S,[],1,1⟩ k):=rfl
  have av:3^(Be T.rows ⟨M,S,[],1,1⟩ k).cs.length*m<=3^nq*m:=aI _ (Nat.pow_le_pow_right dc (hnq k oo))
  have R:=Lh (Be T.rows ⟨M,S,[],1,1⟩ k).cs.length m hm1
  generalize hst0:Be T.rows ⟨M,S,[],1,1⟩ k=st at *
  have X:fnd (fun i=>decide (st.M i k≠0)) (T.rows-st.cs.length) st.cs.length=Jj T.rows k st:=rfl
  have a2:=Ql T.rows k st E.2.2
  refine Yp t2 E.2.2 G (fun V=>?_) (fun V=>?_)
  ·rw [X] at V ⊢
   have q:Bn T.rows k st={ M:=clr (fun i=>st.M (xch st.cs.length (Jj T.rows k st) i)) st.cs.length k st.last,S:=fun i=>st.S (xch st.cs.length (Jj T.rows k st) i),cs:=st.cs++[k],last:=st.M (Jj T.rows k st) k,sgn:=if Jj T.rows k st=st.cs.length then st.sgn else-st.sgn }:=by unfold Bn;grind
   generalize hr:Jj T.rows k st=r at *
   have p:st.cs.length<T.rows:=oo
   refine ⟨_,_,rfl,fun L hq=>∃ (g3 B:aD),L=[I (if r=st.cs.length then st.sgn else-st.sgn)]/\g2.le g3/\Tab hq g3 B T (fun i=>st.M (xch st.cs.length r i)) (fun i=>st.S (xch st.cs.length r i))/\∀ b,b≠T.bE->b≠T.bS->B b=o2 b,?_,?_⟩
   ·refine K8 (fun ae=>?_) (fun ak=>?_)
    ·have d:r≠st.cs.length:=oo
     refine Wm t2 p V (fun e=>d e.symm) ?_
     intro h3 B t3 aa
     refine ⟨rfl,g2,B,?_,B3 _,t3,aa⟩
     rw [iN d]
     have:B7 (0-st.sgn)= - st.sgn:=by rw [B6]<;>omega
     rw [this]
    ·refine ⟨g2,o2,gz0,B3 _,t2.congr (fun i j _ _=>?_) (fun i _=>?_),fun _ _ _=>rfl⟩
     ·unfold xch;grind
     ·unfold xch;grind
   ·rintro ao h4 ⟨g3,B,a0,l3,t3,aa⟩
    obtain rfl:ao=if r=st.cs.length then st.sgn else-st.sgn:=gz0
    refine ⟨_,rfl,_,_,_,t3.c2,?_⟩
    have xk:xch st.cs.length r st.cs.length=r:=Sb _ _
    have aj:∀ i,i<T.rows->xch st.cs.length r i<T.rows:=fun i hi=>Sa p V hi
    refine ⟨fun L hq=>∃ (i:Nat) (O H:aD),i<=T.rows/\L=[I i]/\g3.le O/\Tab hq O H T (fun a b=>if a<i/\a≠st.cs.length then clr (fun i=>st.M (xch st.cs.length r i)) st.cs.length k st.last a b else st.M (xch st.cs.length r a) b) (fun i=>st.S (xch st.cs.length r i))/\∀ b,b≠T.bE->H b=B b,fun L _=>T.rows-(iAt L 0).toNat,⟨0,g3,B,oo,rfl,B3 _,t3.congr (fun a b _ _=>oo) (fun _ _=>rfl),fun _ _=>rfl⟩,?_⟩
    rintro zi h5 ⟨i,O,H,hi,a3,l4,t4,an⟩
    obtain rfl:zi=(i:Int):=gz0
    have ac:B7 ((i:Int)+1)=((i+1:Nat):Int):=by rw [B6]<;>omega
    refine B5 (fun ar=>?_) (fun aw=>?_)
    ·have ab:i<T.rows:=oo
     refine K8 (fun ae=>?_) (fun ak=>?_)
     ·have d:i≠st.cs.length:=oo
      refine Vd (m:=3^st.cs.length*m) t4 ab p d G (Uq _ _ _ _ (A0 l3 l4) iw) E.1 R oo (fun b N=>?_) (fun b N=>?_) D.last ?_
      ·rw [iN oo];exact D.M _ b (aj i ab) N
      ·rw [iN oo,xk];exact D.M r b V N
      intro h6 g6 o6 l6 t6 a1
      refine ⟨rfl,?_⟩
      rw [ac]
      refine ⟨⟨i+1,g6,o6,oo,rfl,A0 l4 l6,t6.congr (fun a b _ _=>?_) (fun _ _=>rfl),fun b N=>gz0⟩,by simp only [Dj];omega⟩
      show (if a=i then ((if st.cs.length<i/\st.cs.length≠st.cs.length then _ else st.M (xch st.cs.length r st.cs.length) k)*(if i<i/\i≠st.cs.length then _ else st.M (xch st.cs.length r i) b)-(if i<i/\i≠st.cs.length then _ else st.M (xch st.cs.length r i) k)*(if st.cs.length<i/\st.cs.length≠st.cs.length then _ else st.M (xch st.cs.length r st.cs.length) b)).tdiv st.last else if a<i/\a≠st.cs.length then clr (fun i=>st.M (xch st.cs.length r i)) st.cs.length k st.last a b else st.M (xch st.cs.length r a) b)=if a<i+1/\a≠st.cs.length then clr (fun i=>st.M (xch st.cs.length r i)) st.cs.length k st.last a b else st.M (xch st.cs.length r a) b
      by_cases ea:a=i
      ·unfold clr
       grind
      omega
     ·rw [ac]
      refine ⟨⟨i+1,O,H,oo,rfl,l4,t4.congr (fun a b _ _=>?_) (fun _ _=>rfl),an⟩,by simp only [Dj];omega⟩
      omega
    ·have Q:Tab h5 O H T (clr (fun i=>st.M (xch st.cs.length r i)) st.cs.length k st.last) (fun i=>st.S (xch st.cs.length r i)):=t4.congr (fun a b ha _=>by
      by_cases h7:a=st.cs.length
      ·unfold clr;grind
      omega) (fun _ _=>rfl)
     refine Ck Q p ⟨_,_,_,rfl,_,rfl,oo,oo,?_⟩
     obtain ⟨wl,zl,d0,d1⟩:=Q.at p G
     have ag:ZIr O wl (st.M r k):=by
      have:clr (fun i=>st.M (xch st.cs.length r i)) st.cs.length k st.last st.cs.length k=st.M r k:=by unfold clr;grind
      grind
     refine ⟨_,_,_,_,d0,d1,?_⟩
     have C:∀ b,b≠T.bE->b≠T.bS->H b=o2 b:=fun b h1 h2=>by grind
     have al:OwnSl H 3 pA pc (zs st.cs):=ow.keep fun b x hA N=>by
      rw [C b (fun e=>u.2.1 gz0) (fun e=>u.2.2 gz0)];exact N
     have W:(zs st.cs).length=st.cs.length:=by simp
     refine Ry (ty:=113) A5a Q.sep al (by simp) (y:=((k:Nat):Int)) rfl dc oo oo ?_
     intro A' c' h' g' o' F s' ay f
     obtain ⟨⟨x1,aq⟩,⟨x2,ad⟩,⟨x3,ah⟩⟩:=Q.own
     have t':=Q.keep s' F (fun kk x e af=>by
      rcases af with rfl|rfl|rfl
      ·exact (f _ _ e u.1).1
      ·exact (f _ _ e u.2.1).1
      ·exact (f _ _ e u.2.2).1)
     rw [W,ew]
     refine ⟨⟨k+1,g',o',A',c',wl,oo,?_,A0 lg (A0 l3 (A0 l4 F)),?_⟩,?_⟩
     ·grind
     ·rw [ai,q]
      refine ⟨t',gz0,⟨(f _ _ aq u.1).2,(f _ _ ad u.2.1).2,(f _ _ ah u.2.2).2⟩,fun kk x e h1 h2=>?_,Uq _ _ _ _ F ag⟩
      grind
     ·show c-((k+1:Nat):Int).toNat<c-((k:Nat):Int).toNat
      omega
  ·have q:Bn T.rows k st=st:=by unfold Bn;grind
   refine ⟨_,_,rfl,?_⟩
   rw [ew]
   refine ⟨⟨k+1,g2,o2,pA,pc,w,oo,gz0,lg,?_⟩,?_⟩
   ·grind
   ·show c-((k+1:Nat):Int).toNat<c-((k:Nat):Int).toNat
    omega
 grind
end
section
variable {h:aD} {K:VP} {A B:Option aG} {n c n' c' m:Nat} {s s':Bool} {x y:Int}
def A3b:RQ h ⟨false,none,0,0,false,none,0,0⟩ 0:=⟨ZI.zero,ZI.zero⟩
def Sm{z:Int}(i:ZI h s A n c z):RQ h ⟨s,A,n,c,false,none,0,0⟩ (z:Rat):=⟨by assumption,by simpa using ZI.zero⟩
def Aa(gl:Gtz h)(ix:ZI h s A n c x)(iy:ZI h s' B n' c' y)(hx:ZB m x)(hy:ZB m y)(hm:m<=6400000000)(hK:∀ w h',h.le h'->RQ h' w (bB x y)->K w.v h'):aN prog 151 #[.agg #[.bool s,.slice A n c],.agg #[.bool s',.slice B n' c']] h K:=by
 refine (fnk func151 (cs:=[(2,[11],[],[.bool false]),(5,[],[(2,2),(3,2)],[.bool false,.slice none 0 0,.bool false,.slice none 0 0])]) (os:=[(4,[0,2,1,3,4,5]),(9,[0,1,3,4,2,5,6,7])]) (own:=[2,3,4,5])) ?_
 refine ⟨fun L R=>R=h/\((L=[.bool true]/\bB x y=0)\/(L=[.bool false]/\y≠0)),?_,?_⟩
 ·refine F7 iy ⟨_,rfl,B5 (fun e=>⟨rfl,.inl ⟨rfl,by simp_all⟩⟩) (fun e=>F7 ix ⟨_,rfl,rfl,?_⟩)⟩
  by_cases Q:x=0
  ·simp_all
  grind
 rintro t R ⟨rfl,hL⟩
 refine Br.of (fun e=>?_) (fun e=>?_)
 ·rcases hL with ⟨_,h0⟩|⟨h1,_⟩
  ·rw [h0] at hK
   exact hK _ _ (B3 _) A3b
  grind
 refine ⟨fun l z=>∃ s A n c s' B n' c' d b,l=[.bool s,.slice A n c,.bool s',.slice B n' c']/\R.le z/\ZI z s A n c d/\ZI z s' B n' c' b/\0<b/\bB d b=bB x y/\ZB m d/\ZB m b,?_,?_⟩
 ·refine Jr iy ⟨_,rfl,B5 (fun e=>?_) (fun e=>?_)⟩
  ·have aa:y<0:=gz0
   refine S7 ix ?_
   intro W r
   refine ⟨_,_,_,_,rfl,B3 _,?_⟩
   refine S7 iy ?_
   intro V k
   exact ⟨_,_,_,_,rfl,B3 _,_,_,_,_,_,_,_,_,-x,-y,rfl,B3 _,r,k,o,Rat.neg_divInt_neg x y,hx.neg,hy.neg⟩
  ·have f:0<y:=gz0
   exact ⟨_,_,_,_,_,_,_,_,x,y,rfl,B3 _,ix,iy,f,rfl,hx,hy⟩
 rintro W A1 n1 c1 V A2 n2 c2 ac ⟨E,A1',T,H,N,A2',G,O,d,b,hl,i,r,k,f,z,u,j⟩
 obtain ⟨rfl,⟨rfl,rfl,rfl⟩,rfl,rfl,rfl,rfl⟩:W=E/\(A1=A1'/\n1=T/\c1=H)/\V=N/\A2=A2'/\n2=G/\c2=O:=gz0
 rw [<- z] at hK
 refine N2 k ⟨_,rfl,B5 (fun X=>?_) (fun X=>?_)⟩
 ·rw [X,Kf] at hK
  exact hK _ _ i (Sm r)
 refine Bg (gl.mono i) r k u j o ?_
 intro A3 n3 c3 h3 p S
 refine ⟨_,_,_,_,rfl,?_⟩
 generalize hqq:bB d b=q at *
 have a:q.num=d/(dB d b:Int):=by
  rw [<- hqq,Rat.num_divInt,Int.sign_eq_one_of_pos f,Int.one_mul,Int.gcd_comm]
 have g:(q.den:Int)=b/(dB d b:Int):=by
  rw [<- hqq,Rat.den_divInt,iN o,Int.gcd_comm,Int.natCast_ediv,Int.natAbs_of_nonneg o]
 have ab:0<dB d b:=Int.gcd_pos_of_ne_zero_right d o
 have C:ZB m (dB d b:Int):=ZB.gcd o j
 refine N2 S ⟨_,rfl,Br.not (B5 (fun Q=>?_) (fun Q=>?_))⟩
 ·rw [Q] at a g
  simp at a g
  refine T2 (q:=q) (r.mono p) (k.mono p) a g ?_
  intro w F
  exact ⟨_,_,_,_,_,_,_,_,rfl,hK _ _ (A0 i p) F⟩
 ·refine S6 (r.mono p) S u C hm o ?_
  intro s4 A4 n4 c4 h4 D i4
  refine ⟨_,_,_,_,rfl,D,?_⟩
  refine S6 ((k.mono p).mono D) (S.mono D) j C hm o ?_
  intro s5 A5 n5 c5 h5 M i5
  refine ⟨_,_,_,_,rfl,M,?_⟩
  refine T2 (q:=q) (i4.mono M) i5 (by rw [a,Int.tdiv_eq_ediv_of_dvd (Int.gcd_dvd_left d b)]) gz0 ?_
  intro w F
  exact ⟨_,_,_,_,_,_,_,_,rfl,hK _ _ (A0 i (A0 p (A0 D M))) F⟩
end
section
variable {α:Type} [E:Enc α]
def OwnSl.store{P:cH}{t e:aO}(one:P.cellsOf t=E.default.size/\(P.info? t).isSome=true){v:aR}{y:α}(hv:v.cells=(enc y).toArray){h g o:aD}{A:Option aG}{c:Nat}{xs:List α}(s:Sep h g o)(w:OwnSl o e A c xs){i b:Nat}(hi:i<xs.length)(hA:A=some ⟨b,0,none⟩){K:Unit->aD->Prop}
 (x:∀ h' o',Sep h' g o'->OwnSl o' e A c (xs.set i y)->(∀ k,k≠b->o' k=o k)->K () h'):wpH P (aS t (.pointer (some (aC ⟨b,0,none⟩ (i*E.default.size)))) v) K h:=by
 rcases w.2 with ⟨D,_⟩|⟨F,j,d,p,r,B⟩
 ·exfalso;grind
 ·rw [hA] at d
  simp only [aP,aU,and_true] at d
  subst d
  obtain ⟨ex,hex⟩:∃ ex,j=xs.flatMap enc++ex:=⟨j.drop (xs.length*E.default.size),by rw [<- B,aV]⟩
  rw [hex] at p r
  obtain ⟨u,f⟩:=Option.isSome_iff_exists.1 one.2
  have C:u.size=E.default.size:=by simpa [Program.cellsOf,f] using one.1
  have m:=E.default.len y
  have n:(i+1)*E.default.size<=xs.length*E.default.size:=aI _ hi
  rw [bF,cV] at n
  have a:(h.without b).put b (.cells (xs.flatMap enc++ex).toArray e)=h:=J5 (s.own b _ p)
  unfold aS
  simp only [C0,Instr.sureAddr,F3,storeVar,H1 f,C,hv,List.size_toArray,m,ne_eq,not_true_eq_false,if_false]
  rw [D4,aL,<- a]
  refine G1 (enc y) (i*E.default.size) 0 _ (by rw [bC,I7,m];omega) (E.default.one y) ?_
  have l:H0 (xs.flatMap enc++ex) (i*E.default.size+0) (enc y)=(xs.set i y).flatMap enc++ex:=by
   rw [cD,<- Lp xs hi]
   unfold H0
   rw [cW (by rw [I7];omega),List.drop_append_of_le_length (by rw [I7,m];omega),bW,bW,bW]
  rw [l]
  have q:(h.without b).put b (.cells ((xs.set i y).flatMap enc++ex).toArray e)=h.put b (.cells ((xs.set i y).flatMap enc++ex).toArray e):=by
   rw [<- a,Gw,a]
  rw [q]
  refine x _ _ (s.upd p _) ⟨by simpa using w.1,.inr ⟨b,(xs.set i y).flatMap enc++ex,hA,B8 _ _ _,?_,?_⟩⟩ (fun k z=>B4 _ _ z)
  ·rw [bC,I7] at r ⊢
   grind
  ·rw [cW (by rw [I7];omega),cF (by rw [I7];omega)]
end
section
variable {h g:aD} {K:VP} {A:Option aG} {n c cols:Nat}
def Zz(h:aD)(v:aR)(A:Option aG)(n c cols:Nat):Prop:=∃ f0 f1:aG,v= .func (.func 251) #[] #[.pointer (some f0),.pointer (some f1)]/\h.cell? f0=some (.slice A n c)/\h.cell? f1=some (I (cols:Int))
def Ve(hc:1<=cols)(hK:∀ v h',h.le h'->Zz h' v A n c cols->K v h'):aN prog 207 #[.slice A n c,I (cols:Int)] h K:=by
 refine (fnk func207) ?_
 refine Rn ?_
 intro b f
 refine ⟨_,rfl,Rn ?_⟩
 intro d a
 have c1:Heap.cell? ((h.put b (.cells (bD (.slice A n c)) 132)).put d (.cells (bD (I (cols:Int))) 3)) ⟨d,0,none⟩=some (I (cols:Int)):=by rw [D6];rfl
 refine ⟨_,rfl,_,c1,B5 (fun e=>o) (fun _=>hK _ _ (A0 (Heap.le_put _ f) (Heap.le_put _ a)) ⟨⟨b,0,none⟩,⟨d,0,none⟩,rfl,?_,c1⟩)⟩
 refine C4 (Heap.le_put _ a) ?_
 rw [D6];rfl
def Qq{g0:aD}{v:aR}{rows:Nat}(ic:Zz g0 v A (rows*cols) c cols)(hc:1<=cols)(hn:rows*cols<=1000000000)(hcap:rows*cols<=c){B:List aR->aD->(aD->Prop)->Prop}{K:aD->Prop}(J:Nat->aD->Prop)(h0:J 0 h)(hle:∀ k h,J k h->g0.le h)
 (hB:∀ k h1,k<rows->J k h1->B [.slice (N3 A ((k+1)*cols) (k*cols) 4) cols cols] h1 (J (k+1))) (hK:∀ h1,J rows h1->K h1):Tr prog v h B K:=by
 obtain ⟨m,p,rfl,y,w⟩:=ic
 refine ⟨251,#[],#[.pointer (some m),.pointer (some p)],rfl,Mm,?_⟩
 intro l rec G a
 show aN _ _ #[.func (.yield l) #[] #[],.pointer (some m),.pointer (some p)] _ _
 refine (fnk func251 [(1,[4],[],[I 0])]) ?_
 refine ⟨fun L t=>∃ (k:Nat) (h1:aD),k<=rows/\L=[I ((k*cols:Nat):Int)]/\h1 l=none/\t=h1.put l (.loop rec)/\J k h1,fun L _=>rows*cols-(iAt L 0).toNat,⟨0,h,o,by simp,G,rfl,h0⟩,?_⟩
 rintro i t ⟨k,h1,N,Q,f,rfl,u⟩
 obtain rfl:i=((k*cols:Nat):Int):=gz0
 have n:=A0 (hle k h1 u) (Heap.le_put (.loop rec) f)
 have j:=C4 n y
 have D:=C4 n w
 refine ⟨_,_,_,j,B5 (fun C=>?_) (fun x=>?_)⟩
 ·have d:k<rows:=by
   grind
  have M:(k+1)*cols<=rows*cols:=aI _ d
  have R:(k+1)*cols=k*cols+cols:=gz0
  have F:(if ((rows*cols-(((k*cols:Nat):Int)).toNat:Nat):Int)<(cols:Int) then ((rows*cols-(((k*cols:Nat):Int)).toNat:Nat):Int) else (cols:Int))=(cols:Int):=by
   omega
  have q:B7 (((k*cols:Nat):Int)+(cols:Int))=(((k+1)*cols:Nat):Int):=by rw [B6]<;>omega
  refine ⟨_,D,_,_,_,j,⟨o,o⟩,_,_,_,j,?_⟩
  rw [F,q]
  simp only [aQ]
  have z:(k+1)*cols-k*cols=cols:=o
  rw [z]
  refine ⟨⟨o,o⟩,⟨o,o⟩,⟨o,o⟩,?_⟩
  refine (a _ h1 (J (k+1)) f (hB k h1 d u)).mono ?_
  rintro r O ⟨rfl,s,e,rfl,b⟩
  refine ⟨_,rfl,?_⟩
  show ∃ (t11:Int),_
  have g:=A0 (hle _ s b) (Heap.le_put (.loop rec) e)
  refine ⟨_,C4 g w,?_⟩
  rw [q]
  exact ⟨⟨k+1,s,o,rfl,e,rfl,b⟩,by simp only [Dj];omega⟩
 ·have E:k=rows:=by
   by_cases H:k=rows
   ·exact H
   ·exfalso
    have:(k+1)*cols<=rows*cols:=aI _ o
    grind
  grind
end
section
variable {α:Type} [E:Enc α]
def Jf{P:cH}{t e:aO}{z:aR}{bytes:Nat}(st:cO P t e z E.default.size bytes){h g o:aD}{A:Option aG}{c:Nat}{xs:List α}(s:Sep h g o)(w:OwnSl o e A c xs){v:aR}{y:α}(hv:v.cells=(enc y).toArray)(hsz:E.default.size<=1000)
 (hb:(2*(xs.length+1)+192)*bytes<=281474976710656) (hn:xs.length+1<=9223372036854775807) {K:VP}
 (x0:∀ B m d hp,h.le hp->(∀ {ty:aO} {K2:VP},(∀ A' c' h' g' o',g.le g'->Sep h' g' o'->OwnSl o' e A' c' (xs++[y])->(∀ k u,o k=some u->A≠some ⟨k,0,none⟩->o' k=some u/\A'≠some ⟨k,0,none⟩)->K2 (.slice A' (xs.length+1) c') h')->wpH P (aZ #[t,t] ty #[.slice A xs.length c,.slice B m d]) K2 hp)->K (.slice B m d) hp):
 wpH P (bN t 1 #[(0,v)]) K h:=by
 obtain ⟨T,p,M⟩:=w.priv s
 refine If st (vs:=[v]) (fun u hu=>by rw [List.mem_singleton.1 hu,hv];simp [E.default.len]) rfl gz0 rfl ?_
 intro b f
 have L:[v].flatMap (fun v=>v.cells.toList)=[y].flatMap enc:=by simp [hv]
 rw [L]
 refine x0 _ _ _ _ (Heap.le_put _ f) (fun {ty K2} x=>?_)
 have p':PrivF (h.put b (.cells ([y].flatMap enc).toArray e)) (T.put b (.cells ([y].flatMap enc).toArray e)) e A c xs:=Priv.put p f _
 refine Gc st p' (ys:=[y]) rfl (Rq e h b [y]) hb hn ?_
 intro A' c' h' g' W hp
 rw [bC]
 have q:∀ k u,h k=some u->A≠some ⟨k,0,none⟩->g' k=some u:=by
  intro k u a R
  have j:k≠b:=gz0
  exact W k u (by rw [B4 _ _ j];grind)
 have H:∀ k u,g k=some u->A≠some ⟨k,0,none⟩:=by
  intro k u a r
  rcases w.2 with ⟨_,h0⟩|⟨n,l,i,C,_⟩
  ·grind
  ·rw [r] at i
   simp only [aP,aU,and_true] at i
   subst i
   rw [s.dis k _ C] at a;cases a
 rcases hp.2.2 with ⟨S,_⟩|⟨n,l,i,C,D,ha,V⟩
 ·exfalso
  have:=hp.2.1
  grind
 ·subst i
  let o':aD:=fun k=>if k=n then some (.cells (bJ l) e) else if A=some ⟨k,0,none⟩ then none else o k
  have O:o' n=some (.cells (bJ l) e):=gz0
  have ok:∀ k,k≠n->A≠some ⟨k,0,none⟩->o' k=o k:=fun k Q G=>by grind
  let g2:aD:=fun k=>match o' k with|some _=>none|none=>h' k
  have gs:∀ k u,o' k=some u->g2 k=none:=fun k u a=>by grind
  have gn:∀ k,o' k=none->g2 k=h' k:=fun k a=>by grind
  have F:∀ k u,k≠n->g' k=some u->h' k=some u:=fun k u Q a=>by rw [D,B4 _ _ Q];exact a
  have N:∀ k u,o k=some u->A≠some ⟨k,0,none⟩->k≠n:=by
   rintro k u a G rfl
   have:=q k u (s.own k u a) G
   grind
  refine x _ c' h' g2 o' (fun k u a=>?_) ⟨fun k u a=>?_,fun k a=>(gn k a).symm,gs⟩ ⟨hp.2.1,.inr ⟨n,l,rfl,O,ha,V⟩⟩ (fun k u a G=>?_)
  ·have X:o k=none:=by
    cases ho:o k with
    | none=>rfl
    | some y=>rw [s.dis k y ho] at a;cases a
   have r:=H k u a
   have e3:=q k u (s.le k u a) r
   grind
  ·by_cases j:k=n
   ·subst j
    rw [O] at a;cases a
    rw [D,B8]
   ·by_cases r:A=some ⟨k,0,none⟩
    ·grind
    ·rw [ok k j r] at a
     exact F k u j (q k u (s.own k u a) r)
  grind
end
def Mj{P:cH}{t:aO}(one:P.cellsOf t=1/\(P.info? t).isSome=true){v:aR}(hv:Qx v=true)(hc:v.cells=#[v]){h g o:aD}(s:Sep h g o){b:Nat}{cs:Array aR}{e:aO}(hb:o b=some (.cells cs e)){i:Nat}(hi:i<cs.size){K:Unit->aD->Prop}
 (x:∀ h' o',Sep h' g o'->o'=o.put b (.cells (cs.setIfInBounds i v) e)->K () h'):wpH P (aS t (.pointer (some (aC ⟨b,0,none⟩ i))) v) K h:=by
 rw [D4,aL]
 have a:h.put b (.cells cs e)=h:=Fh (s.own b _ hb)
 rw [<- a]
 refine V7 one.1 one.2 hv hc hi ?_
 exact x _ _ (s.upd hb _) rfl
structure NT (o:aD) (bp bt cols:Nat) (es:List IV) (ss:List QV) (A:Option aG) (c:Nat) (A':Option aG) (c':Nat):Prop where
 hp:∃ e,o bp=some (.cells #[.pointer (some ⟨bt,0,none⟩)] e)
 ht:∃ e,o bt=some (.cells #[I (cols:Int),.slice A es.length c,.slice A' ss.length c'] e)
 oe:OwnSl o 91 A c es
 os:OwnSl o 93 A' c' ss
 ne:bp≠bt
 a1:A≠some ⟨bp,0,none⟩/\A≠some ⟨bt,0,none⟩
 a2:A'≠some ⟨bp,0,none⟩/\A'≠some ⟨bt,0,none⟩
 a3:∀ b,A=some ⟨b,0,none⟩->A'≠some ⟨b,0,none⟩
section
variable {h g o:aD} {bp bt cols:Nat} {es:List IV} {ss:List QV} {A A':Option aG} {c c':Nat}
def NT.cp(n:NT o bp bt cols es ss A c A' c')(s:Sep h g o):h.cell? ⟨bp,0,none⟩=some (.pointer (some ⟨bt,0,none⟩)):=by
 obtain ⟨e,a⟩:=n.hp
 refine s.cell ?_
 unfold Heap.cell?;grind
def NT.c1(n:NT o bp bt cols es ss A c A' c')(s:Sep h g o):h.cell? (aC ⟨bt,0,none⟩ 1)=some (.slice A es.length c):=by
 obtain ⟨e,a⟩:=n.ht
 refine s.cell ?_
 rw [D4];unfold Heap.cell?;grind
def NT.c2(n:NT o bp bt cols es ss A c A' c')(s:Sep h g o):h.cell? (aC ⟨bt,0,none⟩ 2)=some (.slice A' ss.length c'):=by
 obtain ⟨e,a⟩:=n.ht
 refine s.cell ?_
 rw [D4];unfold Heap.cell?;grind
def A0q:prog.cellsOf 189=1/\(prog.info? 189).isSome=true:=by constructor<;>kernel_rfl
def A0p:prog.cellsOf 132=1/\(prog.info? 132).isSome=true:=by constructor<;>kernel_rfl
def NT.buildE(n:NT o bp bt cols es ss A c A' c')(s:Sep h g o)(w:IV)(hl:es.length<=100000000){F:aD->Prop}(hF:∀ h' g' o' A2 c2,g.le g'->Sep h' g' o'->NT o' bp bt cols (es++[w]) ss A2 c2 A' c'->F h'){K:VP}
 (x:∀ B m d hp,h.le hp->hp.cell? ⟨bp,0,none⟩=some (.pointer (some ⟨bt,0,none⟩))->(∀ {K2:VP},(∀ A2 c2 h2,h2.cell? ⟨bp,0,none⟩=some (.pointer (some ⟨bt,0,none⟩))->wpH prog (aS 189 (.pointer (some (aC ⟨bt,0,none⟩ 1))) (.slice A2 (es.length+1) c2)) (fun _ h3=>F h3) h2->K2 (.slice A2 (es.length+1) c2) h2)->wpH prog (aZ #[189,189] 189 #[.slice A es.length c,.slice B m d]) K2 hp)->K (.slice B m d) hp):
 wpH prog (bN 189 1 #[(0,w.v)]) K h:=by
 refine Jf tZs s n.oe (y:=w) rfl dc oo oo ?_
 intro B m d hp C f
 refine x B m d hp C (C4 C (n.cp s)) (fun {K2} q=>f ?_)
 intro A2 c2 h2 N D M z R keep
 obtain ⟨V,t⟩:=n.hp
 obtain ⟨Q,r⟩:=n.ht
 have L:=keep bp _ t n.a1.1
 have H:=keep bt _ r n.a1.2
 refine q A2 c2 h2 ?_ ?_
 ·refine z.cell ?_
  unfold Heap.cell?;grind
 ·refine Mj A0q rfl rfl z H.1 (by simp) ?_
  intro h3 E T G
  have O:∀ k,k≠bt->E k=D k:=fun k q=>by rw [G,B4 _ _ q]
  refine hF h3 N E A2 c2 M T ⟨⟨V,gz0⟩,⟨Q,by rw [G,B8];simp⟩,R.keep fun b y i l=>gz0,?_,n.ne,⟨L.2,H.2⟩,n.a2,?_⟩
  ·refine (n.os.keep (o':=D) fun b y i l=>(keep b y l (fun e=>n.a3 b e i)).1).keep fun b y i l=>by rw [O b (fun e=>n.a2.2 gz0)];exact l
  ·intro b i a
   rcases n.os.2 with ⟨_,W⟩|⟨u,S,j,p,_⟩
   ·grind
   ·rw [j] at a
    simp only [aP,aU,and_true] at a
    subst a
    exact (keep u _ p (fun e=>n.a3 u e j)).2 i
def NT.buildS(n:NT o bp bt cols es ss A c A' c')(s:Sep h g o)(w:QV)(hl:ss.length<=100000000){F:aD->Prop}(hF:∀ h' g' o' A2 c2,g.le g'->Sep h' g' o'->NT o' bp bt cols es (ss++[w]) A c A2 c2->F h'){K:VP}
 (x:∀ B m d hp,h.le hp->hp.cell? ⟨bp,0,none⟩=some (.pointer (some ⟨bt,0,none⟩))->(∀ {K2:VP},(∀ A2 c2 h2,h2.cell? ⟨bp,0,none⟩=some (.pointer (some ⟨bt,0,none⟩))->wpH prog (aS 132 (.pointer (some (aC ⟨bt,0,none⟩ 2))) (.slice A2 (ss.length+1) c2)) (fun _ h3=>F h3) h2->K2 (.slice A2 (ss.length+1) c2) h2)->wpH prog (aZ #[132,132] 132 #[.slice A' ss.length c',.slice B m d]) K2 hp)->K (.slice B m d) hp):
 wpH prog (bN 132 1 #[(0,w.v)]) K h:=by
 refine Jf A90 s n.os (y:=w) rfl dc oo oo ?_
 intro B m d hp u f
 refine x B m d hp u (C4 u (n.cp s)) (fun {K2} l=>f ?_)
 intro A2 c2 h2 M z L t Q keep
 obtain ⟨T,q⟩:=n.hp
 obtain ⟨O,p⟩:=n.ht
 have H:=keep bp _ q n.a2.1
 have G:=keep bt _ p n.a2.2
 refine l A2 c2 h2 ?_ ?_
 ·refine t.cell ?_
  unfold Heap.cell?;grind
 ·refine Mj A0p rfl rfl t G.1 (by simp) ?_
  intro h3 D S E
  have N:∀ k,k≠bt->D k=z k:=fun k l=>by rw [E,B4 _ _ l]
  refine hF h3 M D A2 c2 L S ⟨⟨T,gz0⟩,⟨O,by rw [E,B8];simp⟩,?_,Q.keep fun b y a i=>gz0,n.ne,n.a1,⟨H.2,G.2⟩,?_⟩
  ·refine (n.oe.keep (o':=z) fun b y a i=>(keep b y i (fun e=>n.a3 b a e)).1).keep fun b y a i=>by rw [N b (fun e=>n.a1.2 gz0)];exact i
  ·intro b a
   rcases n.oe.2 with ⟨_,V⟩|⟨r,R,C,j,_⟩
   ·grind
   ·rw [C] at a
    simp only [aP,aU,and_true] at a
    subst a
    exact (keep r _ j (fun e=>n.a3 r C e)).2
end
def Vq(E:Nat->Rat)(cols i:Nat):Nat->Rat:=fun j=>E (i*cols+j)
def A0y(E:Nat->Rat)(cols i j:Nat):Int:=scl (Vq E cols i j) (Oi (Vq E cols i) cols:Int)
def A06(E:Nat->Rat)(cols i:Nat):Nat->Nat
 | 0=>0
 | j+1=>dB (A06 E cols i j:Int) (A0y E cols i j)
def Pa(E:Nat->Rat)(cols i:Nat):Nat:=if A06 E cols i cols=0 then 1 else A06 E cols i cols
def Ua(E:Nat->Rat)(cols i j:Nat):Int:=(A0y E cols i j).tdiv (Pa E cols i:Int)
def Vp(E:Nat->Rat)(cols i:Nat):Rat:=bB (Oi (Vq E cols i) cols:Int) (Pa E cols i:Int)
def A1g(E:Nat->Rat)(cols i:Nat):∀ n j,j<n->(A06 E cols i n:Int)∣A0y E cols i j:=by
 intro n
 induction n with
 | zero=>omega
 | succ n ih=>
  intro j a
  by_cases e:j=n
  ·subst e;exact Int.gcd_dvd_right _ _
  ·exact Int.dvd_trans (Int.gcd_dvd_left _ _) (ih j o)
def Hp(E:Nat->Rat)(cols i:Nat):0<Pa E cols i:=by unfold Pa;grind
def A1n(E:Nat->Rat)(cols i:Nat){j:Nat}(hj:j<cols):(Pa E cols i:Int)∣A0y E cols i j:=by
 unfold Pa
 split
 ·omega
 ·exact A1g E cols i cols j hj
def A35(E:Nat->Rat)(cols i:Nat){j:Nat}(hj:j<cols):(Ua E cols i j:Rat)=Vp E cols i*E (i*cols+j):=by
 have d:=Hp E cols i
 have a:((Pa E cols i:Nat):Int)≠0:=o
 have c:((Ua E cols i j:Int):Rat)*((Pa E cols i:Nat):Int)=E (i*cols+j)*((Oi (Vq E cols i) cols:Nat):Int):=by
  rw [<- aT]
  unfold Ua
  rw [Int.tdiv_mul_cancel (A1n E cols i hj)]
  exact A5d (by
   have:=A1c (Vq E cols i) cols j hj
   exact Int.natCast_dvd_natCast.2 this)
 have b:=W5 a
 unfold Vp
 rw [bV]
 grind
def A0k(E:Nat->Rat)(cols i:Nat):0<Vp E cols i:=by
 unfold Vp
 rw [bV]
 have a:(0:Rat)<((Oi (Vq E cols i) cols:Nat):Int):=by
  have:=A1b (Vq E cols i) cols
  exact_mod_cast this
 have b:(0:Rat)<((Pa E cols i:Nat):Int):=by
  have:=Hp E cols i
  exact_mod_cast this
 exact Rat.mul_pos a (Rat.inv_pos.2 b)
def ZB.gcd2{k:Nat}{x y:Int}(hx:ZB k x)(hy:ZB k y):ZB k (dB x y:Int):=by
 by_cases h:y=0
 ·subst h
  rw [Int.gcd_zero_right]
  assumption
 ·exact ZB.gcd h hy
section
variable {E:Nat->Rat} {cols i m:Nat}
def Lf(h:∀ j,j<cols->Sz m (E (i*cols+j))){j:Nat}(hj:j<cols):ZB (1+cols*m+m) (A0y E cols i j):=by
 have:=A5c (h j hj) (Lm (f:=Vq E cols i) cols h)
 exact this.mono o
def Yj(h:∀ j,j<cols->Sz m (E (i*cols+j))):∀ j,j<=cols->ZB (1+cols*m+m) (A06 E cols i j:Int):=by
 intro j
 induction j with
 | zero=>intro _;exact ZB.zero
 | succ j ih=>intro a;exact (ih o).gcd2 (Lf h o)
def Lx(h:∀ j,j<cols->Sz m (E (i*cols+j))):ZB (1+cols*m+m) (Pa E cols i:Int):=by
 unfold Pa
 split
 ·exact ZB.one o
 ·exact Yj h cols (aH _)
def A34(h:∀ j,j<cols->Sz m (E (i*cols+j))){j:Nat}(hj:j<cols):ZB (1+cols*m+m) (Ua E cols i j):=(Lf h hj).tdiv
def Wj(h:∀ j,j<cols->Sz m (E (i*cols+j))):Sz (1+cols*m+m) (Vp E cols i):=by
 have:=Hp E cols i
 exact Ff o ((Lm (f:=Vq E cols i) cols h).mono o) (Lx h)
end
structure EsOk (g:aD) (E:Nat->Rat) (cols k:Nat) (es:List IV) (V:Nat->Int) (j:Nat):Prop where
 len:es.length=k*cols+j
 rows:∀ a b,a<k->b<cols->∃ w,es[a*cols+b]? = some w/\ZIr g w (Ua E cols a b)
 last:∀ b,b<j->∃ w,es[k*cols+b]? = some w/\ZIr g w (V b)
def EsOk.mono{g g':aD}{E:Nat->Rat}{cols k j:Nat}{es:List IV}{V:Nat->Int}(e:EsOk g E cols k es V j)(l:g.le g'):EsOk g' E cols k es V j:=by
 refine ⟨e.len,fun a b c i=>?_,fun b c=>?_⟩
 ·obtain ⟨w,f,d⟩:=e.rows a b c i;exact ⟨w,f,Uq _ _ _ _ l d⟩
 ·obtain ⟨w,f,d⟩:=e.last b c;exact ⟨w,f,Uq _ _ _ _ l d⟩
def EsOk.push{g:aD}{E:Nat->Rat}{cols k j:Nat}{es:List IV}{V:Nat->Int}(e:EsOk g E cols k es V j){w:IV}(hw:ZIr g w (V j)):EsOk g E cols k (es++[w]) V (j+1):=by
 have l:=e.len
 refine ⟨gz0,fun a b c f=>?_,fun b c=>?_⟩
 ·obtain ⟨u,d,i⟩:=e.rows a b c f
  grind
 ·by_cases m:b=j
  ·grind
  ·obtain ⟨u,d,i⟩:=e.last b o
   grind
def EsOk.set{g:aD}{E:Nat->Rat}{cols k:Nat}{es:List IV}{V:Nat->Int}(e:EsOk g E cols k es V cols){b:Nat}(hb:b<cols){w:IV}{z:Int}(hw:ZIr g w z):EsOk g E cols k (es.set (k*cols+b) w) (fun x=>if x=b then z else V x) cols:=by
 have m:=e.len
 refine ⟨gz0,fun a d c f=>?_,fun d c=>?_⟩
 ·obtain ⟨u,j,l⟩:=e.rows a d c f
  have i:=Gr c f
  grind
 ·by_cases n:d=b
  ·grind
  ·obtain ⟨u,j,l⟩:=e.last d c
   grind
def EsOk.congr{g:aD}{E:Nat->Rat}{cols k j:Nat}{es:List IV}{V V':Nat->Int}(e:EsOk g E cols k es V j)(h:∀ b,b<j->V b=V' b):EsOk g E cols k es V' j:=
 ⟨e.len,e.rows,fun b a=>by rw [<- h b a];exact e.last b a⟩
def EsOk.next{g:aD}{E:Nat->Rat}{cols k:Nat}{es:List IV}{V:Nat->Int}(e:EsOk g E cols k es V cols)(h:∀ b,b<cols->V b=Ua E cols k b)(V':Nat->Int):EsOk g E cols (k+1) es V' 0:=by
 refine ⟨by rw [e.len,bF,cV];rfl,fun a b d c=>?_,fun b d=>o⟩
 by_cases f:a=k
 ·subst f;rw [<- h b c];exact e.last b c
 ·exact e.rows a b o c
section
variable {h g:aD} {K:VP} {A:Option aG} {n c rows cols m:Nat} {E:Nat->Rat}
def Lk(gl:Gl h)(r:RowV RQr h A (rows*cols) E)(hcap:rows*cols<=c)(hr:1<=rows)(hr2:rows<=10000)(hc:1<=cols)(hc2:cols<=10000)(hs:∀ i,i<rows*cols->Sz m (E i))(hm:1+cols*m+m<=6400000000)
 (hK:∀ h' g' o' T,h.le g'->Tab h' g' o' T (Ua E cols) (Vp E cols)->T.rows=rows->T.cols=cols->K (.pointer (some ⟨T.bt,0,none⟩)) h'):aN prog 149 #[.slice A (rows*cols) c,I (cols:Int)] h K:=by
 refine (fnk func149 [(8,[31],[(9,2)],[I 0,.bool false,.slice none 0 0]),(17,[62],[],[I 0])] (cs:=[(16,[],[(9,2)],[.bool false,.slice none 0 0])]) (os:=[(12,[1,2,3,4,5,0,6,7,8,9,10]),(21,[1,2,3,4,5,6,0,7,8,9,10,11,12])]) (rs:=[(4,[.slice none 0 0])]) (al:=[(12,[(0,[6,7])]),(21,[(0,[7,8,9])])]) (own:=[7,9,11,12,14]) (wr:=[1000000000])) ?_
 have cj:rows*cols<=100000000:=by
  have:rows*cols<=10000*10000:=cK hr2 hc2
  omega
 refine Rn ?_
 intro bt bh
 refine ⟨_,rfl,Fa (z:=.pointer none) (by kernel_rfl) ?_⟩
 intro V ao
 have ar:V≠bt:=by rintro rfl;rw [B8] at ao;cases ao
 refine ⟨_,rfl,?_⟩
 refine V7 (by kernel_rfl) (by kernel_rfl) rfl rfl dc ?_
 have s0:=((Sep.refl h).new bh (.cells (bD (.agg #[I (cols:Int),.slice none 0 0,.slice none 0 0])) 191)).new ao (.cells ((bD (.pointer none)).setIfInBounds 0 (.pointer (some ⟨bt,0,none⟩))) 185)
 have n0:NT ((Gq.put bt (.cells (bD (.agg #[I (cols:Int),.slice none 0 0,.slice none 0 0])) 191)).put V (.cells ((bD (.pointer none)).setIfInBounds 0 (.pointer (some ⟨bt,0,none⟩))) 185)) V bt cols [] [] none 0 none 0:=
  ⟨⟨_,B8 _ _ _⟩,⟨_,by rw [B4 _ _ ar.symm,B8];rfl⟩,OwnSl.nil,OwnSl.nil,ar,⟨by simp,by simp⟩,⟨by simp,by simp⟩,fun b hb=>by cases hb⟩
 generalize (Gq.put bt (.cells (bD (.agg #[I (cols:Int),.slice none 0 0,.slice none 0 0])) 191)).put V (.cells ((bD (.pointer none)).setIfInBounds 0 (.pointer (some ⟨bt,0,none⟩))) 185)=o0 at s0 n0
 refine s0.call (Ve hc ?_)
 intro v g0 l0 ic b9 s3
 have bound:∀ k,k<rows->∀ j,j<cols->Sz m (E (k*cols+j)):=fun k hk j hj=>hs _ (Gr hk hj)
 refine ⟨_,rfl,Qq ic hc oo hcap (fun k M=>∃ (O o1:aD) (C:List IV) (u:List QV) (A1:Option aG) (c1:Nat) (A2:Option aG) (c2:Nat),g0.le O/\Sep M O o1/\NT o1 V bt cols C u A1 c1 A2 c2/\EsOk O E cols k C (fun _=>0) 0/\u.length=k/\Row RQr O u k (Vp E cols)) ?_ ?_ ?_ ?_⟩
 ·exact ⟨g0,o0,[],[],none,0,none,0,B3 _,s3,n0,⟨by simp,fun a b h1=>oo,fun b h1=>oo⟩,rfl,Row.nil⟩
 ·rintro k M ⟨O,o1,C,u,A1,c1,A2,c2,lg,s1,_⟩
  exact A0 lg s1.le
 ·rintro k cb au ⟨O,o1,C,u,A1,c1,A2,c2,a6,s4,R,e1,aa,rs⟩
  have bk:=bound k au
  have cf:(k+1)*cols<=rows*cols:=aI _ au
  have cl:(k+1)*cols=k*cols+cols:=gz0
  have b6:k<=k*cols:=Nat.le_mul_of_pos_right k hc
  have aq:=A0 l0 a6
  have av:RowV RQr h A ((k+1)*cols) E:=by
   have:=r.cut (c:=c) (l:=0) (k:=(k+1)*cols) oo hcap
   rw [F2] at this
   grind
  have ah:RowV RQr h (N3 A ((k+1)*cols) (k*cols) 4) cols (Vq E cols k):=av.cut (c:=(k+1)*cols) (l:=k*cols) (k:=cols) oo (aH _)
  refine ⟨_,_,_,rfl,s4.call (Jn (gl.mono aq) (ah.mono El aq) oo bk hm ?_)⟩
  intro sd Ad nd cd g2 l2 id cm s5
  have cE:=R.c1 s5
  rw [e1.len,cD] at cE
  have d2:=Lm (f:=Vq E cols k) cols bk
  have am:1+cols*m<=1+cols*m+m:=oo
  refine ⟨_,_,_,_,rfl,_,R.cp s5,_,rfl,_,_,_,cE,fun L M=>∃ (j:Nat) (s:Bool) (B:Option aG) (bn bc:Nat) (W o3:aD) (C:List IV) (A1:Option aG) (c1:Nat),j<=cols/\L=[I (j:Int),.bool s,.slice B bn bc]/\g2.le W/\Sep M W o3/\NT o3 V bt cols C u A1 c1 A2 c2/\EsOk W E cols k C (A0y E cols k) j/\ZI W s B bn bc (A06 E cols k j:Int),
   fun L _=>cols-(iAt L 0).toNat,⟨0,false,none,0,0,g2,o1,C,A1,c1,oo,rfl,B3 _,s5,R,(e1.mono l2).congr (fun b hb=>oo),ZI.zero⟩,?_⟩
  rintro z bs bA bn bc ck ⟨j,sB,B,ch,b8,W,o3,ad,A3,c3,hj,eL,l3,s6,n3,e3,i3⟩
  simp only [cZ,Value.int.injEq,cT,cN,true_and,and_true] at eL
  obtain ⟨rfl,rfl,rfl,rfl,rfl⟩:=eL
  have b4:B7 ((j:Int)+1)=((j+1:Nat):Int):=by rw [B6]<;>omega
  have ae:=A0 aq (A0 l2 l3)
  refine B5 (fun bo=>?_) (fun b0=>?_)
  ·have D:j<cols:=oo
   obtain ⟨a,w,ea,X,q0,q1,q2,q3⟩:=ah.qat D
   have ac:=A0 ae s6.le
   refine ⟨a,ea,oo,oo,_,_,_,_,_,_,_,_,C4 ac q0,C4 ac q1,C4 ac q2,C4 ac q3,?_⟩
   refine s6.call (Qk (m:=1+cols*m+m) (El _ _ _ _ ae X) (id.mono l3) ((bk j D).mono oo) (d2.mono am) hm ?_)
   intro s7 A7 n7 c7 g7 l7 i7 a4 bz
   refine ⟨_,_,_,_,rfl,bz.call (Bg (gl.mono (A0 ae l7)).tz (i3.mono l7) i7 (Yj bk j hj) (Lf bk D) oo ?_)⟩
   intro A8 n8 c8 g8 l8 i8 ap G
   have z7:ZIr g8 ⟨s7,A7,n7,c7⟩ (A0y E cols k j):=i7.mono l8
   have hF:∀ h' g' o' A2' F,g8.le g'->Sep h' g' o'->NT o' V bt cols (ad++[⟨s7,A7,n7,c7⟩]) u A2' F A2 c2->(∃ (j':Nat) (s:Bool) (B:Option aG) (bn bc:Nat) (W o3:aD) (C:List IV) (A1:Option aG) (c1:Nat),j'<=cols/\[I (B7 ((j:Int)+1)),.bool false,.slice A8 n8 c8]=[I (j':Int),.bool s,.slice B bn bc]/\g2.le W/\Sep h' W o3/\NT o3 V bt cols C u A1 c1 A2 c2/\EsOk W E cols k C (A0y E cols k) j'/\ZI W s B bn bc (A06 E cols k j':Int))/\cols-(iAt [I (B7 ((j:Int)+1)),.bool false,.slice A8 n8 c8] 0).toNat<cols-(iAt [I (j:Int),.bool bs,.slice bA bn bc] 0).toNat:=by
    intro h' g' o' A2' F H s' n'
    rw [b4]
    refine ⟨⟨j+1,false,A8,n8,c8,g',o',_,A2',F,oo,rfl,A0 l3 (A0 l7 (A0 l8 H)),s',n',((e3.mono (A0 l7 l8)).push z7).mono H,i8.mono H⟩,by simp only [Dj];omega⟩
   have ab:ad.length<=100000000:=by have:=e3.len;omega
   refine ⟨_,_,_,_,rfl,_,n3.cp G,_,rfl,_,_,_,n3.c1 G,⟨_,n3.cp G,?_⟩,?_⟩
   ·exact n3.buildE G ⟨s7,A7,n7,c7⟩ ab hF fun B m d M lp cp n=>⟨_,_,_,rfl,lp,n fun A2 c2 h2 _ q=>⟨_,_,_,rfl,_,rfl,q⟩⟩
   ·exact n3.buildE G ⟨s7,A7,n7,c7⟩ ab hF fun B m d M lp cp n=>⟨_,_,_,rfl,lp,⟨_,cp,n fun A2 c2 h2 _ q=>⟨_,_,_,rfl,_,rfl,q⟩⟩,n fun A2 c2 h2 aj q=>⟨_,_,_,rfl,_,aj,_,rfl,q⟩⟩
  ·have D:j=cols:=oo
   subst D
   have hg:((A06 E j k j:Nat):Int)=0↔A06 E j k j=0:=oo
   refine ⟨fun L M=>∃ (s:Bool) (B:Option aG) (bn bc:Nat) (g4:aD),L=[.bool s,.slice B bn bc]/\W.le g4/\Sep M g4 o3/\ZI g4 s B bn bc (Pa E j k:Int),?_,?_⟩
   ·refine s6.call (F7 i3 ?_)
    intro a4 s7
    refine ⟨_,rfl,B5 (fun e=>?_) (fun e=>?_)⟩
    ·refine s7.call (Dr oo oo ?_)
     intro S A8 n8 c8 g8 l8 i8 ap G
     refine ⟨_,_,_,_,rfl,_,_,_,_,g8,rfl,l8,G,?_⟩
     have:Pa E j k=1:=by unfold Pa;grind
     grind
    ·refine ⟨_,_,_,_,W,rfl,B3 _,s7,?_⟩
     have:Pa E j k=A06 E j k j:=by unfold Pa;grind
     grind
   ·rintro cs cA cn cc a4 ⟨bj,b3,bu,bw,g4,eL,l4,s7,ic⟩
    obtain ⟨rfl,rfl,rfl,rfl⟩:cs=bj/\cA=b3/\cn=bu/\cc=bw:=gz0
    have e4:=e3.mono l4
    have a8:=n3.c1 s7
    rw [e4.len] at a8
    have ax:ad≠[]:=by rintro rfl;have:=e4.len;grind
    obtain ⟨N,an,rB⟩:=n3.oe.rowB ax
    subst an
    have ci:k*j+j<=c3:=by have:=n3.oe.1;rw [e4.len] at this;exact this
    have bf:(((k*j:Nat):Int)).toNat=k*j:=rfl
    have a9:N3 (some ⟨N,0,none⟩) c3 ((((k*j:Nat):Int)).toNat) 2=some ⟨N,k*j*2,none⟩:=by rw [bf,Iv oo,D4,aL]
    have aw:k*j+j-(((k*j:Nat):Int)).toNat=j:=oo
    refine ⟨_,n3.cp s7,_,rfl,_,_,_,a8,⟨oo,oo⟩,?_⟩
    rw [a9,aw]
    refine ⟨fun L M=>∃ (p:Nat) (g o:aD) (C:List IV),p<=j/\L=[I (p:Int)]/\g4.le g/\Sep M g o/\NT o V bt j C u (some ⟨N,0,none⟩) c3 A2 c2/\EsOk g E j k C (fun b=>if b<p then Ua E j k b else A0y E j k b) j,fun L _=>j-(iAt L 0).toNat,⟨0,g4,o3,ad,oo,rfl,B3 _,s7,n3,e4.congr fun b hb=>oo⟩,?_⟩
    rintro z ap ⟨p,g5,o5,Q,cg,eL,l5,S,t,e5⟩
    obtain rfl:z=(p:Int):=gz0
    have bd:B7 ((p:Int)+1)=((p+1:Nat):Int):=by rw [B6]<;>omega
    have bg:B7 (((k*j:Nat):Int)+(p:Int))=((k*j+p:Nat):Int):=by rw [B6]<;>omega
    have a7:=t.c1 S
    rw [e5.len] at a7
    have bx:=Hp E j k
    refine B5 (fun bo=>?_) (fun b0=>?_)
    ·have D:p<j:=oo
     obtain ⟨w,ew,X⟩:=e5.last p D
     rw [iN (cM p)] at X
     obtain ⟨ce,ai,bm⟩:=t.oe.rowB gz0
     simp only [aP,aU,and_true] at ai
     subst ai
     have ag:k*j+p<Q.length:=gz0
     have ca:Q[k*j+p]=w:=by
      grind
     have ha:k*j*2+p*2=(k*j+p)*2:=by rw [bF]
     have cell:∀ x v,(enc w)[x]? = some v->ap.cell? (aC (aC ⟨N,k*j*2,none⟩ (((p:Int)).toNat*2)) x)=some v:=by
      intro x v hx
      refine S.cell ?_
      rw [D4,D4]
      show o5.cell? ⟨N,k*j*2+p*2+x,none⟩=_
      rw [ha]
      exact bm.cell ag gz0
     refine ⟨_,rfl,oo,oo,_,_,_,_,cell 0 _ rfl,cell 1 _ rfl,_,t.cp S,_,rfl,_,_,_,a7,?_⟩
     refine S.call (S6 X (ic.mono l5) (Lf bk D) (Lx bk) hm oo ?_)
     intro s9 A9 n9 c9 g9 l9 i9 a5 a0
     refine ⟨_,_,_,_,rfl,S.le_le a0 l9,_,rfl,oo,oo,?_⟩
     rw [bg]
     refine OwnSl.store Wk (y:=(⟨s9,A9,n9,c9⟩:IV)) rfl a0 t.oe ag rfl ?_
     intro b7 bq bl az ko
     obtain ⟨x1,co⟩:=t.hp
     obtain ⟨x2,be⟩:=t.ht
     have b1:V≠N:=fun e=>t.a1.1 (by rw [e])
     have b2:bt≠N:=fun e=>t.a1.2 (by rw [e])
     rw [bd]
     refine ⟨⟨p+1,g9,bq,Q.set (k*j+p) ⟨s9,A9,n9,c9⟩,oo,rfl,A0 l5 l9,bl,⟨⟨x1,gz0⟩,⟨x2,gz0⟩,az,t.os.keep fun b x hb hx=>by rw [ko b (fun e=>t.a3 N rfl gz0)];exact hx,t.ne,t.a1,t.a2,t.a3⟩,((e5.mono l9).set D (show ZIr g9 ⟨s9,A9,n9,c9⟩ (Ua E j k p) from i9)).congr fun b hb=>?_⟩,by simp only [Dj];omega⟩
     grind
    ·have bv:p=j:=oo
     subst bv
     have eN:EsOk g5 E p (k+1) Q (fun _=>0) 0:=e5.next (fun b hb=>oo) _
     have sS:=Wj (E:=E) (cols:=p) (i:=k) bk
     have fr:∀ (gg:aD) (w:QV),g5.le gg->RQ gg w (bB (Oi (Vq E p k) p:Int) (Pa E p k:Int))->∀ h' g' o' A2' F,gg.le g'->Sep h' g' o'->NT o' V bt p Q (u++[w]) (some ⟨N,0,none⟩) c3 A2' F->∃ (O o1:aD) (C:List IV) (u:List QV) (A1:Option aG) (c1:Nat) (A2:Option aG) (c2:Nat),g0.le O/\Sep h' O o1/\NT o1 V bt p C u A1 c1 A2 c2/\EsOk O E p (k+1) C (fun _=>0) 0/\u.length=k+1/\Row RQr O u (k+1) (Vp E p):=by
      intro gg w ay X h' g' o' A2' F H s' n'
      have af:O.le g':=A0 l2 (A0 l3 (A0 l4 (A0 l5 (A0 ay H))))
      refine ⟨g',o',Q,u++[w],_,c3,A2',F,A0 a6 af,s',n',eN.mono (A0 ay H),gz0,?_⟩
      have bi:Row RQr g' u u.length (Vp E p):=by rw [aa];exact rs.mono El af
      have:=bi.push (w:=w) (by rw [aa];exact El _ _ _ _ H X)
      grind
     have bb:=(gl.mono (A0 ae (A0 l4 l5))).tz
     have ba:=(id.mono (A0 l3 (A0 l4 l5)))
     have ak:u.length<=100000000:=oo
     refine ⟨_,t.cp S,_,rfl,_,_,_,t.c2 S,⟨_,t.cp S,?_⟩,?_⟩
     ·refine S.call (Aa bb ba (ic.mono l5) (d2.mono am) (Lx bk) hm ?_)
      intro w gf lf X a5 s9
      refine ⟨_,_,_,_,_,_,_,_,rfl,S.le_le s9 lf,?_⟩
      exact t.buildS s9 w ak (fr gf w lf X) fun B m d M lp cp n=>⟨_,_,_,rfl,lp,n fun A2 c2 h2 _ q=>⟨_,_,_,rfl,_,rfl,q⟩⟩
     ·refine S.call (Aa bb ba (ic.mono l5) (d2.mono am) (Lx bk) hm ?_)
      intro w gf lf X a5 s9
      refine ⟨_,_,_,_,_,_,_,_,rfl,S.le_le s9 lf,⟨_,t.cp s9,?_⟩,?_⟩
      ·exact t.buildS s9 w ak (fr gf w lf X) fun B m d M lp cp n=>⟨_,_,_,rfl,lp,n fun A2 c2 h2 _ q=>⟨_,_,_,rfl,_,rfl,q⟩⟩
      ·exact t.buildS s9 w ak (fr gf w lf X) fun B m d M lp cp n=>⟨_,_,_,rfl,lp,⟨_,cp,n fun A2 c2 h2 _ q=>⟨_,_,_,rfl,_,rfl,q⟩⟩,n fun A2 c2 h2 aj q=>⟨_,_,_,rfl,_,aj,_,rfl,q⟩⟩
 ·rintro M ⟨O,o1,C,u,A1,c1,A2,c2,lg,s1,R,e1,aa,rs⟩
  refine ⟨_,R.cp s1,?_⟩
  have ab:C.length=rows*cols:=by rw [e1.len];rfl
  have b5:0<rows*cols:=Nat.mul_pos oo oo
  obtain ⟨N,an,rE⟩:=R.oe.rowB gz0
  obtain ⟨bS,br,rS⟩:=R.os.rowB gz0
  subst an br
  obtain ⟨x2,be⟩:=R.ht
  refine hK M O o1 ⟨bt,N,bS,rows,cols,c1,c2⟩ (A0 l0 lg) ⟨s1,fun (e:bt=N)=>R.a1.2 (by rw [<- e]),fun (e:bt=bS)=>R.a2.2 (by rw [<- e]),fun (e:N=bS)=>R.a3 N rfl (by rw [e]),⟨x2,gz0⟩,⟨C,rE,ab,fun i j hi hj=>e1.rows i j hi hj⟩,⟨u,rS,aa,rs⟩,by rw [<- ab];exact R.oe.1,by rw [<- aa];exact R.os.1,⟨hr2,hc2⟩,hc⟩ rfl rfl
end
def A7e(c:Array aR):Prop:=∀ (i:Nat) (n:Int),c[i]? ≠ some (Value.int .u64 n)
def SlI.without{h:aD}{A:Option aG}{xs:List Int}{b:Nat}{c:Array aR}{e:aO}(hb:h b=some (.cells c e))(hc:A7e c)(s:SlI .u64 h A xs):SlI .u64 (h.without b) A xs:=by
 rcases s with s|⟨a,k,f⟩
 ·exact .inl s
 ·by_cases g:xs=[]
  ·subst g;exact SlI.nil
  ·right
   refine ⟨a,k,fun i v l=>?_⟩
   have d:=f i v l
   have j:a.block≠b:=by
    rintro rfl
    obtain ⟨x,g⟩:∃ x,v= .int .u64 x:=by
     grind
    subst g
    unfold Heap.cell? at d
    rw [Pj,hb] at d
    simp only at d
    split at d
    ·cases d
    ·exact hc _ _ d
   unfold Heap.cell? at d ⊢
   rw [Pj] at d ⊢
   unfold Heap.without
   grind
def ZI.without{h:aD}{s:Bool}{A:Option aG}{n c:Nat}{z:Int}{b:Nat}{cs:Array aR}{e:aO}(hb:h b=some (.cells cs e))(hc:A7e cs)(i:ZI h s A n c z):ZI (h.without b) s A n c z:=by
 obtain ⟨a,⟨j,k,f,d⟩,g⟩:=i
 exact ⟨a,⟨j,k,SlI.without hb hc f,d⟩,g⟩
def RQ.without{h:aD}{w:QV}{q:Rat}{b:Nat}{cs:Array aR}{e:aO}(hb:h b=some (.cells cs e))(hc:A7e cs)(i:RQ h w q):RQ (h.without b) w q:=⟨ZI.without hb hc i.num,ZI.without hb hc i.den⟩
def Nz(xs:List QV):A7e (xs.flatMap enc).toArray:=by
 intro i n h
 have e:(xs.flatMap enc)[i]? = some (.int .u64 n):=gz0
 have b:=List.mem_of_getElem? e
 obtain ⟨x,_,d⟩:=List.mem_flatMap.1 b
 have a:(.int .u64 n:aR)∈[.bool x.s,.slice x.A x.n x.c,.bool x.s2,.slice x.A2 x.n2 x.c2]:=d
 grind
def Sep.grab{h g o:aD}(s:Sep h g o){b:Nat}{x:Obj}(hb:g b=some x):Sep h (g.without b) (o.put b x):=by
 refine ⟨fun k y e=>?_,fun k e=>?_,fun k y e=>?_⟩
 ·by_cases a:k=b
  ·subst a
   rw [B8] at e;cases e
   exact s.le k _ hb
  ·rw [B4 _ _ a] at e;exact s.own k y e
 ·by_cases a:k=b
  ·subst a;rw [B8] at e;cases e
  ·rw [B4 _ _ a] at e
   unfold Heap.without
   rw [iN a];exact s.rest k e
 ·by_cases a:k=b
  ·subst a;exact Q4 _ _
  ·rw [B4 _ _ a] at e
   unfold Heap.without
   rw [iN a];exact s.dis k y e
def Jg{h g:aD}{b:Nat}(l:h.le g)(hb:h b=none):h.le (g.without b):=fun k x e=>by
 have a:k≠b:=gz0
 unfold Heap.without
 rw [iN a];exact l k x e
def Tab.grab{h g o:aD}{T:Tb}{M:Nat->Nat->Int}{S:Nat->Rat}(t:Tab h g o T M S){b:Nat}{cs:Array aR}{e:aO}(hb:g b=some (.cells cs e))(hc:A7e cs):Tab h (g.without b) (o.put b (.cells cs e)) T M S:=by
 have a:∀ k x,o k=some x->k≠b:=by rintro k x e rfl;rw [t.sep.dis k x e] at hb;cases hb
 refine ⟨t.sep.grab hb,t.n1,t.n2,t.n3,?_,?_,?_,t.cE,t.cS,t.small,t.pos⟩
 ·obtain ⟨e,p⟩:=t.head
  exact ⟨e,by rw [B4 _ _ (a _ _ p)];exact p⟩
 ·obtain ⟨s,⟨f,ex,c⟩,l,d⟩:=t.elems
  refine ⟨s,⟨f,ex,by rw [B4 _ _ (a _ _ c)];exact c⟩,l,fun i j m q=>?_⟩
  obtain ⟨w,e,n⟩:=d i j m q
  exact ⟨w,e,ZI.without hb hc n⟩
 ·obtain ⟨r,⟨f,ex,c⟩,l,d⟩:=t.scales
  refine ⟨r,⟨f,ex,by rw [B4 _ _ (a _ _ c)];exact c⟩,l,fun i m=>?_⟩
  obtain ⟨w,e,n⟩:=d i m
  exact ⟨w,e,RQ.without hb hc n⟩
structure MOk (r c:Int) (n:Nat) (ls:Nat->List UInt8) (rows cols:Nat):Prop where
 er:r=rows
 ec:c=cols
 r1:1<=rows
 r2:rows<=64
 c1:1<=cols
 c2:cols<=64
 len:n=rows*cols
 num:∀ i,i<n->dA (ls i)
def Rx(r c:Int)(n:Nat):Prop:=1<=r/\r<=64/\1<=c/\c<=64/\(n:Int)=r*c
def MOk.of{r c:Int}{n:Nat}{ls:Nat->List UInt8}(s:Rx r c n)(h:∀ i,i<n->dA (ls i)):MOk r c n ls r.toNat c.toNat:=by
 obtain ⟨d,a,f,b,e⟩:=s
 refine ⟨o,o,o,o,o,o,?_,h⟩
 grind
def MOk.shape{r c:Int}{n:Nat}{ls:Nat->List UInt8}{rows cols:Nat}(m:MOk r c n ls rows cols):Rx r c n:=by
 obtain ⟨rfl,rfl,d,a,f,b,e,_⟩:=m
 exact ⟨o,o,o,o,o⟩
abbrev Ft(r c:Int)(A:Option aG)(n cap:Nat):aR:=.agg #[I r,I c,.slice A n cap]
def Mx(r c:Int)(n:Nat)(ls:Nat->List UInt8):Prop:=∃ rows cols,MOk r c n ls rows cols
def Fg{r c:Int}{n:Nat}{ls:Nat->List UInt8}:Mx r c n ls↔Rx r c n/\∀ i,i<n->dA (ls i):=by
 constructor
 ·rintro ⟨a,b,m⟩;exact ⟨m.shape,m.num⟩
 ·rintro ⟨s,h⟩;exact ⟨_,_,MOk.of s h⟩
section
variable {h:aD} {K:VP} {A:Option aG} {n cap m:Nat} {r c:Int} {ls:Nat->List UInt8}
def Es(hn:n<=1000000000)(hK1:Rx r c n->K (.bool true) h)(hK0:¬ Rx r c n->K (.bool false) h):aN prog 88 #[Ft r c A n cap] h K:=by
 refine (fnk func88 (own:=[1])) ?_
 refine B5 (fun f=>B5 (fun a=>B5 (fun j=>B5 (fun b=>?_) (fun e=>hK0 fun s=>e s.2.2.2.1)) (fun e=>hK0 fun s=>e s.2.2.1)) (fun e=>hK0 fun s=>e s.2.1)) (fun e=>hK0 fun s=>e s.1)
 have i:r*c<=64*64:=Int.mul_le_mul a b o o
 have d:0<=r*c:=dF o o
 have g:B7 (r*c)=r*c:=B6 o o
 rw [g]
 by_cases e:(n:Int)=r*c
 ·rw [show ((n:Int)==r*c)=true from gz0]
  exact hK1 ⟨f,a,j,b,e⟩
 ·rw [show ((n:Int)==r*c)=false from gz0]
  exact hK0 fun s=>e s.2.2.2.2
def Kc(gl:Gl h)(rv':RowV SSr h A n ls)(hn:n<=1000000)(hl:∀ i,i<n->(ls i).length<=140737488351232)
 (hK1:∀ rows cols,MOk r c n ls rows cols->∀ b h',Own RQr h h' b n (fun i=>rv (ls i))->K (.tuple #[.slice (some ⟨b,0,none⟩) n n,.bool true]) h')
 (hK0:¬ Mx r c n ls->∀ h',h.le h'->K (.tuple #[.slice none 0 0,.bool false]) h'):aN prog 148 #[Ft r c A n cap] h K:=by
 refine (fnk func148 (own:=[1])) ?_
 refine Es o (fun s=>⟨_,rfl,?_⟩) (fun s=>⟨_,rfl,hK0 (fun x=>s (Fg.1 x).1) h (B3 _)⟩)
 refine Nr gl rv' hn hl (fun a b h' w=>⟨_,_,_,_,rfl,hK1 _ _ (MOk.of s a) b h' w⟩) (fun d h' l=>⟨_,_,_,_,rfl,hK0 (fun x=>d (Fg.1 x).2) h' l⟩)
def Dh(gl:Gl h)(rv':RowV SSr h A n ls)(hn:n<=1000000)(hl:∀ i,i<n->(ls i).length<=140737488351232)
 (hK1:Mx r c n ls->K (.bool true) h) (hK0:¬ Mx r c n ls->K (.bool false) h):aN prog 37 #[Ft r c A n cap] h K:=by
 refine (fnk func37 [(4,[11],[],[I 0])] (own:=[1])) ?_
 refine Es o (fun s=>⟨_,rfl,?_⟩) (fun s=>⟨_,rfl,hK0 (fun x=>s (Fg.1 x).1)⟩)
 refine ⟨fun L g=>∃ k:Nat,k<=n/\L=[I k]/\g=h/\∀ i,i<k->dA (ls i),fun L _=>n-(iAt L 0).toNat,⟨0,o,rfl,rfl,fun i p=>o⟩,?_⟩
 rintro t g ⟨k,u,q,rfl,b⟩
 obtain rfl:=sI1 q
 refine B5 (fun l=>?_) (fun j=>?_)
 ·have d:k<n:=o
  obtain ⟨a,rfl,m⟩:=rv'.sat d
  refine ⟨a,rfl,o,o,_,m,Tt gl (hl k d) (fun f=>⟨_,rfl,?_⟩) (fun f=>⟨_,rfl,hK0 (fun y=>f ((Fg.1 y).2 k d))⟩)⟩
  rw [wiS k o]
  refine ⟨⟨k+1,o,rfl,rfl,fun i p=>?_⟩,by simp only [Dj];omega⟩
  by_cases e:i=k
  ·subst e;exact f
  ·exact b i o
 ·have:k=n:=o
  subst this
  exact hK1 (Fg.2 ⟨s,b⟩)
def Qy{f:Nat->Rat}(gl:Gl h)(rq:RowV RQr h A n f)(hn:n<=1000000)(hs:∀ i,i<n->Sz m (f i))(hm:m<=40000000)
 (hK:∀ b h',Own SSr h h' b n (fun i=>K9 (f i))->K (Ft r c (some ⟨b,0,none⟩) n n) h'):aN prog 152 #[I r,I c,.slice A n cap] h K:=by
 refine (fnk func152 (own:=[6])) ?_
 exact Nn gl rq hn hs hm fun b h' w=>⟨_,_,_,rfl,hK b h' w⟩
end
end Go.Proofs.YtdphgbjaijlckaaGreatDoor
namespace Go.Proofs.YtdphgbjaijlckaaGreatDoor
set_option maxRecDepth 20000
def ZrE(n c:Nat)(s:ES):Prop:=∀ i j,i<n->s.cs.length<=i->j<c->s.R i j=0
structure EqA (n w c:Nat) (A:Nat->Nat->Rat) (s:ES):Prop where
 len:s.cs.length<=n
 zero:ZrE n c s
 lt:∀ x∈s.cs,x<c
 elim:∃ B,Elim n w B s.R (fun m=>s.cs.getD m 0) s.cs.length/\(∀ i,i<n->∃ i',i'<n/\∀ j,B i' j=A i j)/\(∀ i,i<n->∃ i',i'<n/\∀ j,B i j=A i' j)
 comb:∃ T:Nat->Nat->Rat,∀ i j,i<n->j<w->s.R i j=sm n fun l=>T i l*A l j
def mtx(E:Nat->Rat)(cols:Nat):Nat->Nat->Rat:=fun i j=>E (i*cols+j)
def elE(E:Nat->Rat)(rows cols c:Nat):ES:=A7k rows ⟨mtx E cols,[],1⟩ c
def elP(E:Nat->Rat)(rows cols c:Nat):PS:=Be rows ⟨Ua E cols,Vp E cols,[],1,1⟩ c
def Ov(E:Nat->Rat){rows cols c:Nat}(hc:c<=cols):ERel rows cols c (mtx E cols) (elE E rows cols c) (elP E rows cols c):=
 (ERel.start (fun i j _ a=>A35 E cols i a) (fun i _=>by have:=A0k E cols i;grind)).run c hc
def A72(E:Nat->Rat){rows cols c:Nat}(hc:c<=cols):(elP E rows cols c).cs=(elE E rows cols c).cs:=(Ov E hc).cs.symm
def A71(E:Nat->Rat){rows cols c:Nat}(hc:c<=cols){i j:Nat}(hi:i<rows)(hj:j<cols)(h:i<(elE E rows cols c).cs.length\/j<c):bB ((elP E rows cols c).M i j) (elP E rows cols c).last=(elE E rows cols c).R i j:=by
 have r:=Ov E hc (rows:=rows)
 have b:=r.val i j hi hj
 have d:=W5 r.last
 rw [bV,b]
 by_cases a:i<(elE E rows cols c).cs.length
 ·grind
 ·rw [iN a,r.zero i j hi o o,cC,cC]
  grind
def bnd(cols m:Nat):Nat:=1+cols*m+m
def A70{E:Nat->Rat}{rows cols m:Nat}(h:∀ i,i<rows*cols->Sz m (E i)):ZbP rows cols (bnd cols m) (bnd cols m) ⟨Ua E cols,Vp E cols,[],1,1⟩:=by
 have e:∀ i,i<rows->∀ j,j<cols->Sz m (E (i*cols+j)):=fun i g j f=>h _ (Gr g f)
 refine ⟨fun a b d c=>?_,?_,fun a d=>Wj (e a d),cJ _⟩
 ·show ZB (3^0*bnd cols m) (Ua E cols a b)
  rw [Nat.pow_zero,cV];exact A34 (e a d) c
 ·show ZB (3^0*bnd cols m) 1
  exact ZB.one (by unfold bnd;omega)
def A2p{E:Nat->Rat}{rows cols m c:Nat}(h:∀ i,i<rows*cols->Sz m (E i))(hc:c<=cols):ZbP rows cols (bnd cols m) (bnd cols m) (elP E rows cols c):=(A70 h).run (by unfold bnd;omega) c hc
def A2q(E:Nat->Rat)(rows cols c:Nat):(elP E rows cols c).cs.length<=c:=A0v _ _ rfl c
def Tk(E:Nat->Rat)(rows cols c:Nat)(x:Nat):3^(elP E rows cols c).cs.length*x<=3^c*x:=aI _ (Nat.pow_le_pow_right dc (A2q E rows cols c))
def A4b(E:Nat->Rat)(rows cols c:Nat):(elP E rows cols c).last≠0:=(Hw rows _ (show (1:Int)≠0 from dc) (.inl rfl) (cJ _) c).1
structure Own2 (h h':aD) (b n:Nat) (f:Nat->List UInt8) (A:Option aG) (cap:Nat) (l:List Int):Prop where
 ex:∃ g o xs,h.le g/\Sep h' g o/\RowX o b xs/\xs.length=n/\Row SSr g xs n f/\OwnSl o 3 A cap l/\A≠some ⟨b,0,none⟩
def Own2.le{h h':aD}{b n:Nat}{f:Nat->List UInt8}{A:Option aG}{cap:Nat}{l:List Int}(w:Own2 h h' b n f A cap l):h.le h':=by
 obtain ⟨g,o,c,a,s,_⟩:=w.ex
 exact A0 a s.le
def Own2.strs{h h':aD}{b n:Nat}{f:Nat->List UInt8}{A:Option aG}{cap:Nat}{l:List Int}(w:Own2 h h' b n f A cap l):RowV SSr h' (some ⟨b,0,none⟩) n f:=by
 obtain ⟨g,o,a,c,s,r,e,q,_⟩:=w.ex
 exact ⟨a,r.rowB.slF s.ole,e,q.mono R2 s.le⟩
def Own2.ints{h h':aD}{b n:Nat}{f:Nat->List UInt8}{A:Option aG}{cap:Nat}{l:List Int}(w:Own2 h h' b n f A cap l):SlF h' A l/\l.length<=cap:=by
 obtain ⟨g,o,c,d,s,r,e,q,a,_⟩:=w.ex
 exact ⟨a.slF s.ole,a.1⟩
section
variable {h g o:aD} {T:Tb} {M:Nat->Nat->Int} {S:Nat->Rat}
def Tab.fat(t:Tab h g o T M S){k:Nat}(hk:k<T.rows*T.cols):∃ w:IV,ZIr g w (M (k/T.cols) (k%T.cols))/\o.cell? (aC (aC ⟨T.bE,0,none⟩ (k*2)) 0)=some (.bool w.s)/\o.cell? (aC (aC ⟨T.bE,0,none⟩ (k*2)) 1)=some (.slice w.A w.n w.c):=by
 have a:=t.pos
 have b:k/T.cols<T.rows:=aX gz0
 obtain ⟨w,d,c0,c1⟩:=t.ato b (dC k a)
 have e:k/T.cols*T.cols*2+k%T.cols*2=k*2:=by rw [<- bF,bU (k/T.cols),Nat.div_add_mod]
 rw [D4,D4,e] at c0 c1
 refine ⟨w,d,?_,?_⟩
 ·rw [D4,D4,aL];exact c0
 ·rw [D4,D4,aL];exact c1
end
section
variable {h:aD} {K:VP} {A:Option aG} {n cap m:Nat} {r c:Int} {ls:Nat->List UInt8}
abbrev rvs(ls:Nat->List UInt8):Nat->Rat:=fun i=>rv (ls i)
def Nl{E:Nat->Rat}{rows cols cc nq:Nat}(gl:Gl h)(rq:RowV RQr h A (rows*cols) E)(hcap:rows*cols<=cap)(hr:1<=rows)(hr2:rows<=10000)(hc:1<=cols)(hc2:cols<=10000)(hcc:cc<=cols)(hs:∀ i,i<rows*cols->Sz m (E i))(hnq:∀ k,k<=cc->(elP E rows cols k).cs.length<=nq)(hm:2*(3^nq*bnd cols m)+1<=100000000){K:VP}
 (hK:∀ T h1,aN prog 150 #[.pointer (some ⟨T.bt,0,none⟩),I (cc:Int)] h1 (fun r h'=>∃ g' o' A' cap' w,h.le g'/\Tab h' g' o' T (elP E rows cols cc).M (elP E rows cols cc).S/\OwnSl o' 3 A' cap' (zs (elP E rows cols cc).cs)/\A20 T A'/\ZIr g' w (elP E rows cols cc).last/\
  r= .tuple #[.slice A' (elP E rows cols cc).cs.length cap',w.v,I (elP E rows cols cc).sgn])->h.le h1->T.rows=rows->T.cols=cols->K (.pointer (some ⟨T.bt,0,none⟩)) h1):aN prog 149 #[.slice A (rows*cols) cap,I (cols:Int)] h K:=by
 have h1:bnd cols m<=3^nq*bnd cols m:=bI _ (Nat.pow_pos dc)
 have j:bnd cols m=1+cols*m+m:=rfl
 refine Lk (m:=m) gl rq hcap hr hr2 hc hc2 hs o ?_
 intro h' g' o' T f t b s
 refine hK T h' ?_ (A0 f t.sep.le) b s
 have x:=A70 hs
 refine Nq (m:=bnd cols m) (l:=bnd cols m) t o o (by rw [b];exact hnq) hm gz0 ?_
 intro j g q A2 a w n c e p u d
 rw [b] at c e d ⊢
 exact ⟨g,q,A2,a,w,A0 f n,c,e,p,d,rfl⟩
def Hv{E:Nat->Rat}{rows cols cc:Nat}(gl:Gl h)(rq:RowV RQr h A (rows*cols) E)(hcap:rows*cols<=cap)(hr:1<=rows)(hr2:rows<=10000)(hc:1<=cols)(hc2:cols<=10000)(hcc:cc<=cols)(hs:∀ i,i<rows*cols->Sz m (E i))(hm:2*(3^cc*bnd cols m)+1<=100000000){K:VP}
 (hK:∀ T h1,aN prog 150 #[.pointer (some ⟨T.bt,0,none⟩),I (cc:Int)] h1 (fun r h'=>∃ g' o' A' cap' w,h.le g'/\Tab h' g' o' T (elP E rows cols cc).M (elP E rows cols cc).S/\OwnSl o' 3 A' cap' (zs (elP E rows cols cc).cs)/\A20 T A'/\ZIr g' w (elP E rows cols cc).last/\
  r= .tuple #[.slice A' (elP E rows cols cc).cs.length cap',w.v,I (elP E rows cols cc).sgn])->h.le h1->T.rows=rows->T.cols=cols->K (.pointer (some ⟨T.bt,0,none⟩)) h1):aN prog 149 #[.slice A (rows*cols) cap,I (cols:Int)] h K:=Nl gl rq hcap hr hr2 hc hc2 hcc hs (fun k a=>aY (A2q E rows cols k) a) hm hK
end
def A3c(E:Nat->Rat)(rows cols:Nat):Nat->Rat:=fun k=>(elE E rows cols cols).R (k/cols) (k%cols)
def Own2.of{h g o g5 h7:aD}{b n:Nat}{f:Nat->List UInt8}{A:Option aG}{cap:Nat}{l:List Int}(s:Sep h7 g5 o)(lh:h.le g)(ow:OwnSl o 3 A cap l)(w:Own SSr g g5 b n f):Own2 h h7 b n f A cap l:=by
 obtain ⟨p,a,q,u,c,d,z,i⟩:=w.ex
 have m:∀ k x,a k=some x->(o.join a) k=some x:=fun k x e=>by show (match a k with|some x=>some x|none=>o k)=_;rw [e]
 have F:∀ k,a k=none->(o.join a) k=o k:=fun k e=>by show (match a k with|some x=>some x|none=>o k)=_;rw [e]
 have B:∀ k x,o k=some x->a k=none:=by
  intro k x e
  cases ho:a k with
  | none=>rfl
  | some y=>have:=s.dis k x e;rw [c.own k y ho] at this;cases this
 refine ⟨p,o.join a,q,A0 lh u,s.join c,d.keep (fun x e=>m b x e),z,i,ow.keep fun k x _ e=>gz0,fun G=>?_⟩
 obtain ⟨e,E⟩:=d
 rcases ow.2 with ⟨_,C⟩|⟨D,t,r,j,_⟩
 ·grind
 grind
def Ka(o:aD)(A:Option aG):aD:=fun k=>if A=some ⟨k,0,none⟩ then o k else none
def Xp(o:aD)(A:Option aG):(Ka o A).le o:=fun k x e=>by
 unfold Ka at e
 grind
def OwnSl.only{α:Type}[E:Enc α]{o:aD}{e:aO}{A:Option aG}{c:Nat}{xs:List α}(w:OwnSl o e A c xs):OwnSl (Ka o A) e A c xs:=w.keep fun b x a d=>by unfold Ka;grind
def Qw(o:aD){A:Option aG}{k:Nat}(h:A≠some ⟨k,0,none⟩):Ka o A k=none:=by unfold Ka;grind
section
variable {h:aD} {K:VP} {A:Option aG} {n cap m:Nat} {r c:Int} {ls:Nat->List UInt8}
def Oc(gl:Gl h)(rv':RowV SSr h A n ls)(hn:n<=1000000)(hl:∀ i,i<n->(ls i).length<=140737488351232)(hs:∀ i,i<n->Sz m (rv (ls i)))(hb:∀ rows cols,MOk r c n ls rows cols->2*(3^cols*bnd cols m)+1<=40000000)
 (hK1:∀ rows cols,MOk r c n ls rows cols->∀ b h' A' cap',Own2 h h' b n (fun k=>K9 (A3c (rvs ls) rows cols k)) A' cap' (zs (elE (rvs ls) rows cols cols).cs)->K (.tuple #[Ft r c (some ⟨b,0,none⟩) n n,.slice A' (elE (rvs ls) rows cols cols).cs.length cap',I 0]) h')
 (hK0:¬ Mx r c n ls->∀ h',h.le h'->K (.tuple #[Ft 0 0 none 0 0,.slice none 0 0,I 1]) h'):aN prog 80 #[Ft r c A n cap] h K:=by
 refine (fnk func80 [(7,[38],[],[I 0])] (own:=[1,2,9,12]) (wr:=[150])) ?_
 refine Kc gl rv' hn hl ?_ ?_
 ·intro rows cols mk b h1 own
  have V:=hb rows cols mk
  obtain ⟨rfl,rfl,a3,az,a0,a2,rfl,au⟩:=id mk
  have ol:=own.le
  have ov:=own.vis El
  obtain ⟨g1,o1,l,W,s1,rx,hx,rr⟩:=own.ex
  obtain ⟨e1,ac⟩:=id rx
  refine ⟨_,_,_,_,rfl,?_⟩
  refine Hv (E:=rvs ls) (cc:=cols) (m:=m) (gl.mono ol) ov (aH _) oo oo oo oo (aH _) hs oo ?_
  intro T h2 Q l2 a4 ad
  refine ⟨_,rfl,?_⟩
  refine FCall.mono Q ?_
  rintro r3 h3 ⟨g3,o3,A3,d,w,l3,t3,ow,ap,iw,rfl⟩
  refine ⟨_,_,_,_,_,_,_,_,rfl,_,rfl,_,_,_,t3.c1,?_⟩
  have j:=A2p (E:=rvs ls) (rows:=rows) (c:=cols) hs (aH _)
  have ay:=Tk (rvs ls) rows cols cols (bnd cols m)
  have t:=A4b (rvs ls) rows cols cols
  have p:∀ k,k<rows*cols->bB ((elP (rvs ls) rows cols cols).M (k/cols) (k%cols)) (elP (rvs ls) rows cols cols).last=A3c (rvs ls) rows cols k:=by
   intro k D
   have X:k/cols<rows:=aX gz0
   have C:=dC k (show 0<cols from oo)
   exact A71 (rvs ls) (aH _) X C (.inr C)
  rw [A72 _ (aH _)] at ow ⊢
  generalize elP (rvs ls) rows cols cols=st at *
  have a:g3 b=some (.cells (l.flatMap enc).toArray e1):=l3 _ _ (s1.own _ _ ac)
  have am:A3≠some ⟨b,0,none⟩:=by
   intro hA
   rcases ow.2 with ⟨_,h0⟩|⟨b',ax,u,V,_⟩
   ·grind
   ·rw [hA] at u
    simp only [aP,aU,and_true] at u
    subst u
    rw [t3.sep.dis _ _ V] at a;cases a
  have ak:∀ k x,o3 k=some x->k≠b:=by rintro k x e rfl;rw [t3.sep.dis k x e] at a;cases a
  have t4:=t3.grab a (Nz l)
  have aj:ZI (g3.without b) w.s w.A w.n w.c st.last:=ZI.without a (Nz l) iw
  have H:g1.le (g3.without b):=Jg (A0 s1.le l3) (s1.dis _ _ ac)
  have al:OwnSl (o3.put b (.cells (l.flatMap enc).toArray e1)) 3 A3 d (zs (elE (rvs ls) rows cols cols).cs):=ow.keep fun k x _ e=>by rw [B4 _ _ (ak k x e)];exact e
  have ag:RowX (o3.put b (.cells (l.flatMap enc).toArray e1)) b l:=RowX.mk
  generalize g3.without b=g4 at *
  generalize o3.put b (.cells (l.flatMap enc).toArray e1)=o4 at *
  have nb:b≠T.bt/\b≠T.bE/\b≠T.bS:=by
   obtain ⟨⟨x1,y1⟩,⟨x2,y2⟩,⟨x3,y3⟩⟩:=t3.own
   grind
  refine ⟨fun L hp=>∃ (k:Nat) (g o:aD) (G:List QV),k<=rows*cols/\L=[I (k:Int)]/\g4.le g/\Tab hp g o T st.M st.S/\RowX o b G/\G.length=rows*cols/\Row RQr g G k (A3c (rvs ls) rows cols)/\(∀ f,f≠b->o f=o4 f),fun L _=>rows*cols-(iAt L 0).toNat,⟨0,g4,o4,l,oo,rfl,B3 _,t4,ag,hx,Row.nil,fun _ _=>rfl⟩,?_⟩
  rintro z hp ⟨k,g5,o5,G,D,eL,l5,B,ab,hy,aa,aw⟩
  obtain rfl:z=(k:Int):=gz0
  refine B5 (fun ai=>?_) (fun a1=>?_)
  ·have q:k<rows*cols:=gz0
   obtain ⟨w5,z5,c0,c1⟩:=B.fat (k:=k) oo
   rw [ad] at z5
   have X:k/cols<rows:=aX gz0
   have C:=dC k (show 0<cols from oo)
   refine ⟨_,rfl,oo,ai,_,_,_,_,B.sep.cell c0,B.sep.cell c1,?_⟩
   refine B.sep.call (Aa (gl.mono (A0 W (A0 H l5))).tz z5 (aj.mono l5) (j.M _ _ X C) j.last oo ?_)
   intro w6 O F i6 h6 s6
   rw [p k q] at i6
   refine ⟨_,_,_,_,_,_,_,_,rfl,_,rfl,oo,oo,?_⟩
   refine Gd Kt (y:=w6) rfl s6 ab (i:=k) oo ?_
   intro h7 o7 x7 eo s7 aq
   have ko:∀ f,f≠b->o7 f=o5 f:=fun f D=>by rw [eo,B4 _ _ D]
   rw [wiS k oo]
   refine ⟨⟨k+1,O,o7,_,oo,rfl,A0 l5 F,B.keep s7 F (fun f x e av=>by
    grind),aq,gz0,(aa.mono El F).set oo i6,fun f D=>gz0⟩,by simp only [Dj];omega⟩
  ·have q:k=rows*cols:=gz0
   subst q
   have af:OwnSl o5 3 A3 d (zs (elE (rvs ls) rows cols cols).cs):=al.keep fun f x hA e=>by grind
   obtain ⟨O,F,s6⟩:=B.sep.give (Xp o5 A3)
   obtain ⟨e5,ao⟩:=id ab
   have an:O b=some (.cells (G.flatMap enc).toArray e5):=by
    rw [<- s6.rest b (Qw o5 am)]
    exact B.sep.own _ _ ao
   have ar:RowV RQr O (some ⟨b,0,none⟩) (rows*cols) (A3c (rvs ls) rows cols):=⟨G,(RowX.rowB ⟨e5,an⟩).slF (B3 _),hy,aa.mono El F⟩
   have R:h.le O:=A0 W (A0 H (A0 l5 F))
   have ae:∀ k,k<rows*cols->Sz (3^st.cs.length*bnd cols m) (A3c (rvs ls) rows cols k):=by
    intro k D
    have X:k/cols<rows:=aX gz0
    have C:=dC k (show 0<cols from oo)
    rw [<- p k D]
    exact Ff t (j.M _ _ X C) j.last
   refine s6.call (Qy (gl.mono R) ar hn ae oo ?_)
   intro b2 g7 N h7 s7
   exact ⟨_,_,_,_,_,rfl,hK1 rows cols mk b2 h7 A3 d (Own2.of s7 R af.only N)⟩
 ·intro ah h1 l1
  exact ⟨_,_,_,_,rfl,hK0 ah h1 l1⟩
end
def A50(E:Nat->Rat)(n:Nat):Rat:=if (elE E n n n).cs.length<n then 0 else (elE E n n n).det
def Ts{h:aD}{K:VP}{s:Bool}{A:Option aG}{n c:Nat}{z:Int}(i:ZI h s A n c z)(hK:∀ w,RQ h w (z:Rat)->K w.v h):aN prog 153 #[.agg #[.bool s,.slice A n c]] h K:=by
 refine (fnk func153 (own:=[1,2])) ?_
 exact hK _ (Sm i)
def Hs:K9 0=[48]:=by rfl
def A4i(E:Nat->Rat){n:Nat}(h:(elE E n n n).cs.length=n):((elP E n n n).sgn:Rat)*(elP E n n n).last/pr n (elP E n n n).S=A50 E n:=by
 have r:=Ov E (rows:=n) (aH n)
 have b:=r.det h
 have a:=A8o r.scale
 unfold A50
 grind
section
variable {h:aD} {K:VP} {A:Option aG} {n cap m:Nat} {r c:Int} {ls:Nat->List UInt8}
def Xy(gl:Gl h)(rv':RowV SSr h A n ls)(hn:n<=1000000)(hl:∀ i,i<n->(ls i).length<=140737488351232)(hs:∀ i,i<n->Sz m (rv (ls i)))(hb:∀ rows cols,MOk r c n ls rows cols->70*(3^cols*bnd cols m)+100<=40000000)
 (hK1:∀ q,MOk r c n ls q q->∀ h',h.le h'->K (.tuple #[.string (bs (K9 (A50 (rvs ls) q))),I 0]) h')
 (hK2:Mx r c n ls->r≠c->∀ h',h.le h'->K (.tuple #[.string (bs []),I 4]) h')
 (hK0:¬ Mx r c n ls->∀ h',h.le h'->K (.tuple #[.string (bs []),I 1]) h'):aN prog 81 #[Ft r c A n cap] h K:=by
 refine (fnk func81 [(14,[53],[(10,4)],[I 0,.bool false,.slice none 0 0,.bool false,.slice none 0 0])] (cs:=[(13,[],[(10,4)],[.bool false,.slice none 0 0,.bool false,.slice none 0 0])]) (own:=[1,8,10,12]) (wr:=[150])) ?_
 refine Kc gl rv' hn hl ?_ ?_
 ·intro rows cols mk b h1 own
  have aq:=hb rows cols mk
  have:=mk.r1;have:=mk.r2;have:=mk.c1;have:=mk.c2
  obtain ⟨rfl,rfl,a1,av,ax,az,rfl,ag⟩:=id mk
  refine ⟨_,_,_,_,rfl,K8 (fun V=>hK2 ⟨_,_,mk⟩ V h1 own.le) (fun au=>?_)⟩
  obtain rfl:rows=cols:=o
  refine Hv (E:=rvs ls) (cc:=rows) (m:=m) (gl.mono own.le) (own.vis El) (aH _) o o o o (aH _) hs o ?_
  intro T h2 B l2 d e2
  refine ⟨_,rfl,?_⟩
  refine FCall.mono B ?_
  rintro r3 Q ⟨g3,o3,A3,ae,w,l3,G,ow,ap,iw,rfl⟩
  have y:=A2p (E:=rvs ls) (rows:=rows) (c:=rows) hs (aH _)
  have f:=Tk (rvs ls) rows rows rows (bnd rows m)
  have aa:=(Hw rows ⟨Ua (rvs ls) rows,Vp (rvs ls) rows,[],1,1⟩ (show (1:Int)≠0 from dc) (.inl rfl) (cJ _) rows).2.1
  have M:(elP (rvs ls) rows rows rows).sgn=1\/(elP (rvs ls) rows rows rows).sgn= -1:=aa
  have O:∀ i,i<rows->(elP (rvs ls) rows rows rows).S i≠0:=(Ov (rvs ls) (rows:=rows) (aH rows)).scale
  have C:=A0 own.le (A0 l3 G.sep.le)
  have H:=A4i (rvs ls) (n:=rows)
  have l:(elE (rvs ls) rows rows rows).cs.length<rows->A50 (rvs ls) rows=0:=fun h=>by unfold A50;rw [iP h]
  have ad:=(Ov (rvs ls) (rows:=rows) (aH rows)).asc
  refine ⟨_,_,_,_,_,_,_,_,rfl,?_⟩
  rw [A72 _ (aH _)]
  refine B5 (fun g=>?_) (fun F=>?_)
  ·have:=hK1 rows mk Q C
   rw [l o,Hs] at this
   exact this
  have u:(elE (rvs ls) rows rows rows).cs.length=rows:=o
  have t:=H u
  generalize elP (rvs ls) rows rows rows=st at *
  have ab:ZI Q w.s w.A w.n w.c st.last:=iw.mono G.sep.le
  refine Ts ab (fun w4 i4=>?_)
  have hB:1<=3^st.cs.length*bnd rows m:=Lh _ _ (by unfold bnd;omega)
  have sl:Sz (3^rows*bnd rows m) (st.last:Rat):=(Sz.int y.last hB).mono f
  refine ⟨_,_,_,_,_,_,_,_,rfl,fun L hp=>∃ w:QV,hp=Q/\L=[.bool w.s,.slice w.A w.n w.c,.bool w.s2,.slice w.A2 w.n2 w.c2]/\RQ Q w ((st.sgn:Rat)*st.last),?_,?_⟩
  ·refine B5 (fun e=>?_) (fun e=>?_)
   ·have d:st.sgn= -1:=o
    refine Ue i4 (fun w5 X=>⟨_,_,_,_,_,_,_,_,rfl,w5,rfl,rfl,?_⟩)
    rw [d]
    have:(((-1:Int)):Rat)*(st.last:Rat)= -(st.last:Rat):=by
     have:((-1:Int):Rat)= -1:=by decide +kernel
     rw [this];grind
    rw [this];exact X
   ·have d:st.sgn=1:=o
    refine ⟨w4,rfl,rfl,?_⟩
    rw [d]
    have:((1:Int):Rat)*(st.last:Rat)=(st.last:Rat):=by
     have:((1:Int):Rat)=1:=rfl
     rw [this,Rat.one_mul]
    rw [this];exact i4
  ·rintro d0 ay al aj d2 ak a0 am hp ⟨w5,rfl,N,X⟩
   simp only [cZ,cT,cN,and_true] at N
   obtain ⟨rfl,⟨rfl,rfl,rfl⟩,rfl,⟨rfl,rfl,rfl⟩⟩:=N
   have s0:Sz (3^rows*bnd rows m) ((st.sgn:Rat)*st.last):=by
    rcases M with e|e
    ·rw [e]
     have:((1:Int):Rat)*(st.last:Rat)=(st.last:Rat):=by
      have:((1:Int):Rat)=1:=rfl
      rw [this,Rat.one_mul]
     rw [this];exact sl
    ·rw [e]
     have:(((-1:Int)):Rat)*(st.last:Rat)= -(st.last:Rat):=by
      have:((-1:Int):Rat)= -1:=by decide +kernel
      rw [this];grind
     rw [this];exact sl.neg
   refine ⟨_,rfl,_,_,_,G.c2,fun L x=>∃ (k:Nat) (w:QV),k<=rows/\hp.le x/\L=[I (k:Int),.bool w.s,.slice w.A w.n w.c,.bool w.s2,.slice w.A2 w.n2 w.c2]/\RQ x w ((st.sgn:Rat)*st.last/pr k st.S)/\Sz ((k+1)*(3^rows*bnd rows m)) ((st.sgn:Rat)*st.last/pr k st.S),fun L _=>rows-(iAt L 0).toNat,⟨0,w5,o,B3 _,rfl,?_,?_⟩,?_⟩
   ·have:(st.sgn:Rat)*st.last/pr 0 st.S=(st.sgn:Rat)*st.last:=by rw [pr,cI];grind
    rw [this];exact X
   ·have:(st.sgn:Rat)*st.last/pr 0 st.S=(st.sgn:Rat)*st.last:=by rw [pr,cI];grind
    rw [this];exact s0.mono o
   rintro z e0 ai aw an ah ao ar a2 h6 ⟨k,w6,hk,p,N,i6,R⟩
   simp only [cZ,Value.int.injEq,cT,cN,true_and,and_true] at N
   obtain ⟨rfl,rfl,⟨rfl,rfl,rfl⟩,rfl,⟨rfl,rfl,rfl⟩⟩:=N
   have j:=A0 C p
   have af:(k+1)*(3^rows*bnd rows m)<=65*(3^rows*bnd rows m):=aI _ o
   refine B5 (fun g=>?_) (fun F=>?_)
   ·have a:k<rows:=by rw [d] at g;omega
    obtain ⟨w7,i7,c0,c1,c2,c3⟩:=G.sat (i:=k) (by rw [d];exact a)
    refine ⟨_,rfl,o,g,_,_,_,_,_,_,_,_,C4 p c0,C4 p c1,C4 p c2,C4 p c3,?_⟩
    have sS:Sz (3^rows*bnd rows m) (st.S k):=(y.S k a).mono (bI _ (Nat.pow_pos dc))
    have ac:RQ h6 w7 (st.S k):=El _ _ _ _ (A0 G.sep.le p) i7
    have ek:(k+1+1)*(3^rows*bnd rows m)=(k+1)*(3^rows*bnd rows m)+3^rows*bnd rows m:=by rw [bF (k+1),cV]
    refine Ui (gl.mono j).tz i6 ac R (sS.mono (bI _ o)) (aY hB (aY f (bI _ o))) o ?_
    intro w8 h8 l8 i8
    have D:(st.sgn:Rat)*st.last/pr k st.S/st.S k=(st.sgn:Rat)*st.last/pr (k+1) st.S:=by
     rw [pr,cI,cI,cI,Rat.inv_mul_rev]
     grind
    refine ⟨_,_,_,_,_,_,_,_,rfl,?_⟩
    rw [wiS k o]
    refine ⟨⟨k+1,w8,o,A0 p l8,rfl,by rw [<- D];exact i8,?_⟩,by simp only [Dj];omega⟩
    rw [<- D,ek]
    exact R.div sS (aY hB f)
   ·have a:k=rows:=by rw [d] at F;omega
    subst a
    rw [t] at i6 R
    exact Gm (gl.mono j).p10 i6 R o ⟨_,rfl,hK1 k mk h6 j⟩
 ·intro W h1 l1
  exact ⟨_,_,_,_,rfl,hK0 W h1 l1⟩
end
structure HV where
 A:Option aG
 n:Nat
 c:Nat
abbrev HV.v(s:HV):aR:=.slice s.A s.n s.c
instance:Enc HV:=⟨⟨fun s=>[.slice s.A s.n s.c],1,fun _=>rfl,fun s v hv=>by rw [List.mem_singleton.1 hv];rfl⟩⟩
def RowsV(h:aD)(A:Option aG)(n w:Nat)(M:Nat->Nat->Rat):Prop:=∃ hd:List HV,SlF h A hd/\hd.length=n/\∀ i,i<n->∃ s,hd[i]? = some s/\s.n=w/\w<=s.c/\RowV NQr h s.A w (M i)
def RowsV.congr{h:aD}{A:Option aG}{n w:Nat}{M M':Nat->Nat->Rat}(r:RowsV h A n w M)(e:∀ i j,i<n->j<w->M i j=M' i j):RowsV h A n w M':=by
 obtain ⟨c,s,a,r⟩:=r
 refine ⟨c,s,a,fun i b=>?_⟩
 obtain ⟨s,a,g,d,r⟩:=r i b
 exact ⟨s,a,g,d,r.congr fun j f=>e i j b f⟩
def RowsV.at{h:aD}{A:Option aG}{n w:Nat}{M:Nat->Nat->Rat}(r:RowsV h A n w M){i:Nat}(hi:i<n):∃ (a:aG) (s:HV),A=some a/\s.n=w/\w<=s.c/\h.cell? (aC a (i*1))=some (.slice s.A s.n s.c)/\RowV NQr h s.A w (M i):=by
 obtain ⟨b,s,e,r⟩:=r
 obtain ⟨u,l,k,d,r⟩:=r i hi
 obtain ⟨a,f,j⟩:=SlF.at dc s (i:=i) o
 have g:b[i]=u:=by
  grind
 have:=j 0 _ (by rw [g];rfl)
 exact ⟨a,u,f,k,d,this,r⟩
structure Mt (h g o:aD) (bo:Nat) (rb:Nat->Nat) (n w:Nat) (M:Nat->Nat->Rat):Prop where
 sep:Sep h g o
 hd:∃ hd:List HV,RowB o bo hd/\hd.length=n/\∀ i,i<n->∃ c,hd[i]? = some ⟨some ⟨rb i,0,none⟩,w,c⟩/\w<=c
 nb:∀ i,i<n->rb i≠bo
 inj:∀ i j,i<n->j<n->rb i=rb j->i=j
 row:∀ i,i<n->∃ xs:List QV,RowB o (rb i) xs/\xs.length=w/\Row NQr g xs w (M i)
section
variable {h g o:aD} {bo n w:Nat} {rb:Nat->Nat} {M:Nat->Nat->Rat}
def Mt.next(t:Mt h g o bo rb n w M){h' g':aD}(s:Sep h' g' o)(l:g.le g'):Mt h' g' o bo rb n w M:=by
 refine ⟨s,t.hd,t.nb,t.inj,fun i b=>?_⟩
 obtain ⟨a,r,e,q⟩:=t.row i b
 exact ⟨a,r,e,q.mono Od l⟩
def Mt.congr(t:Mt h g o bo rb n w M){M':Nat->Nat->Rat}(e:∀ i j,i<n->j<w->M i j=M' i j):Mt h g o bo rb n w M':=by
 refine ⟨t.sep,t.hd,t.nb,t.inj,fun i a=>?_⟩
 obtain ⟨c,r,d,q⟩:=t.row i a
 exact ⟨c,r,d,q.congr fun j b=>e i j a b⟩
def Mt.rowsV(t:Mt h g o bo rb n w M):RowsV h (some ⟨bo,0,none⟩) n w M:=by
 obtain ⟨b,r,e,q⟩:=t.hd
 refine ⟨b,r.slF t.sep.ole,e,fun i a=>?_⟩
 obtain ⟨c,f,m⟩:=q i a
 obtain ⟨j,l,k,d⟩:=t.row i a
 exact ⟨_,f,rfl,m,j,l.slF t.sep.ole,k,d.mono Od t.sep.le⟩
def Mt.head(t:Mt h g o bo rb n w M){i:Nat}(hi:i<n):∃ c,w<=c/\o.cell? (aC ⟨bo,0,none⟩ (i*1))=some (.slice (some ⟨rb i,0,none⟩) w c):=by
 obtain ⟨a,r,e,q⟩:=t.hd
 obtain ⟨c,f,b⟩:=q i hi
 refine ⟨c,b,?_⟩
 have d:a[i]=⟨some ⟨rb i,0,none⟩,w,c⟩:=by
  grind
 rw [D4,aL]
 exact r.cell (i:=i) oo (j:=0) (by rw [d];rfl)
def Mt.elem(t:Mt h g o bo rb n w M){i j:Nat}(hi:i<n)(hj:j<w):∃ x:QV,NQ g x (M i j)/\o.cell? (aC (aC ⟨rb i,0,none⟩ (j*4)) 0)=some (.bool x.s)/\o.cell? (aC (aC ⟨rb i,0,none⟩ (j*4)) 1)=some (.slice x.A x.n x.c)/\o.cell? (aC (aC ⟨rb i,0,none⟩ (j*4)) 2)=some (.bool x.s2)/\o.cell? (aC (aC ⟨rb i,0,none⟩ (j*4)) 3)=some (.slice x.A2 x.n2 x.c2):=by
 obtain ⟨b,r,e,q⟩:=t.row i hi
 obtain ⟨x,f,a⟩:=q j hj
 have cell:∀ k v,(enc x)[k]? = some v->o.cell? (aC (aC ⟨rb i,0,none⟩ (j*4)) k)=some v:=by
  intro k v d
  rw [D4,D4,aL]
  exact r.cell (i:=j) oo (j:=k) gz0
 exact ⟨x,a,cell 0 _ rfl,cell 1 _ rfl,cell 2 _ rfl,cell 3 _ rfl⟩
def A7i(M:Nat->Nat->Rat)(i j:Nat)(q:Rat):Nat->Nat->Rat:=fun a b=>if a=i/\b=j then q else M a b
def Mt.store(t:Mt h g o bo rb n w M){i j:Nat}(hi:i<n)(hj:j<w){x:QV}{q:Rat}(hx:NQ g x q){K:Unit->aD->Prop}
 (k:∀ h' o',Mt h' g o' bo rb n w (A7i M i j q)->(∀ k,k≠rb i->o' k=o k)->K () h'):wpH prog (aS 44 (.pointer (some (aC ⟨rb i,0,none⟩ (j*4)))) x.v) K h:=by
 obtain ⟨H,r,e,F⟩:=t.row i hi
 rw [D4,aL]
 refine Sep.store (E:=inferInstanceAs (Enc QV)) Nm (v:=x.v) (y:=x) rfl t.sep r (i:=j) oo rfl ?_
 intro h' o' L c m u
 refine k h' o' ⟨m,?_,t.nb,t.inj,fun a d=>?_⟩ (fun k p=>by rw [c,B4 _ _ p])
 ·obtain ⟨l,D,C,A⟩:=t.hd
  exact ⟨l,by rw [c];exact D.other (t.nb i hi).symm _,C,A⟩
 ·by_cases f:a=i
  ·subst f
   refine ⟨_,u,gz0,?_⟩
   refine (Row.upd F (k:=j) oo hx).congr fun b _=>?_
   unfold A7i
   grind
  ·obtain ⟨z,G,B,s⟩:=t.row a d
   refine ⟨z,by rw [c];exact G.other (fun e=>f (t.inj a i d hi e)) _,B,s.congr fun b _=>?_⟩
   unfold A7i
   grind
end
def RWr(w:Nat):aD->HV->(Nat->Rat)->Prop:=fun h s f=>s.n=w/\w<=s.c/\RowV NQr h s.A w f
def A6u(w:Nat):Mon (RWr w):=fun _ _ _ _ l i=>⟨i.1,i.2.1,i.2.2.mono Od l⟩
def RowsV.of{h:aD}{A:Option aG}{n w:Nat}{M:Nat->Nat->Rat}(r:RowV (RWr w) h A n M):RowsV h A n w M:=r
section
variable {h:aD} {K:VP} {A:Option aG} {n cap m w:Nat} {r c:Int} {ls:Nat->List UInt8} {M:Nat->Nat->Rat}
def Ux(rv':RowV SSr h A n ls)(hn:n<=1000000)(hl:∀ i,i<n->(ls i).length<=140737488351232)
 (hK1:∀ rows cols,MOk r c n ls rows cols->∀ b h',h.le h'->RowsV h' (some ⟨b,0,none⟩) rows cols (mtx (rvs ls) cols)->K (.tuple #[.slice (some ⟨b,0,none⟩) rows rows,.bool true]) h')
 (hK0:¬ Mx r c n ls->∀ h',h.le h'->K (.tuple #[.slice none 0 0,.bool false]) h'):aN prog 51 #[Ft r c A n cap] h K:=by
 refine (fnk func51 [(8,[7],[],[I 0])] (own:=[1])) ?_
 have j:∀ (_:¬ Rx r c n),K (.tuple #[.slice none 0 0,.bool false]) h:=fun hs=>hK0 (fun x=>hs (Fg.1 x).1) h (B3 _)
 refine B5 (fun e=>j fun s=>by have:=s.1;omega) (fun h1=>B5 (fun e=>j fun s=>by have:=s.2.1;omega) (fun M=>B5 (fun e=>j fun s=>by have:=s.2.2.1;omega) (fun W=>B5 (fun e=>j fun s=>by have:=s.2.2.2.1;omega) (fun Q=>?_))))
 have N:r*c<=64*64:=Int.mul_le_mul oo oo oo oo
 have E:0<=r*c:=dF oo oo
 have R:B7 (r*c)=r*c:=B6 oo oo
 rw [R]
 refine K8 (fun e=>j fun s=>e s.2.2.2.2) (fun S=>?_)
 have O:Rx r c n:=⟨oo,oo,oo,oo,S⟩
 refine Xr rv' hn hl (fun m b d own=>?_) (fun q h' l=>⟨_,_,_,_,rfl,hK0 (fun x=>q (Fg.1 x).2) h' l⟩)
 have mk:=MOk.of O m
 generalize r.toNat=rows at mk
 generalize c.toNat=cols at mk
 obtain ⟨rfl,rfl,_,_,_,_,rfl,_⟩:=id mk
 have X:=own.vis Od
 refine ⟨_,_,_,_,rfl,T9 A91 (zx:=(⟨none,0,0⟩:HV)) rfl oo oo oo oo ?_⟩
 intro u w
 refine ⟨_,_,_,rfl,fun L p=>∃ k:Nat,k<=rows/\L=[I (k:Int)]/\OwnK (RWr cols) d p u rows k (mtx (rvs ls) cols),fun L _=>rows-(iAt L 0).toNat,⟨0,oo,rfl,OwnK.zero w⟩,?_⟩
 rintro z p ⟨k,hk,eL,g,o,V,t,s,D,hx,C⟩
 obtain rfl:z=(k:Int):=gz0
 refine B5 (fun H=>?_) (fun F=>?_)
 ·have f:k<rows:=oo
  have M:(k+1)*cols<=rows*cols:=aI _ f
  have W:(k+1)*cols=k*cols+cols:=gz0
  have B:B7 ((k:Int)+1)=((k+1:Nat):Int):=B6 oo oo
  have e1:B7 ((k:Int)*(cols:Int))=((k*cols:Nat):Int):=by exact R7 oo
  have T:B7 (B7 ((k:Int)+1)*(cols:Int))=(((k+1)*cols:Nat):Int):=by rw [B,<- cG];exact R7 oo
  rw [e1,T,B]
  refine ⟨⟨oo,oo⟩,⟨oo,oo⟩,_,rfl,oo,oo,?_⟩
  simp only [aQ]
  have G:(k+1)*cols-k*cols=cols:=oo
  rw [G]
  have row:RowV NQr d (N3 (some ⟨b,0,none⟩) (rows*cols) (k*cols) 4) cols (mtx (rvs ls) cols k):=X.cut (c:=rows*cols) (l:=k*cols) (k:=cols) oo (aH _)
  refine OwnK.store (A6u cols) Sh (y:=(⟨N3 (some ⟨b,0,none⟩) (rows*cols) (k*cols) 4,cols,rows*cols-k*cols⟩:HV)) t (B3 _) s D oo C f rfl ⟨rfl,gz0,row.mono Od t⟩ ?_
  intro Q ow
  exact ⟨⟨k+1,oo,rfl,ow⟩,by simp only [Dj];omega⟩
 ·have:k=rows:=oo
  subst this
  have a:Own (RWr cols) d p u k (mtx (rvs ls) cols):=⟨g,o,V,t,s,D,hx,C⟩
  exact hK1 _ _ mk u p (A0 own.le a.le) (RowsV.of (a.vis (A6u cols)))
def Z9(rv':RowV SSr h A n ls)(hn:n<=1000000)(hl:∀ i,i<n->(ls i).length<=140737488351232)
 (hK1:Mx r c n ls->∀ h',h.le h'->K (.bool true) h') (hK0:¬ Mx r c n ls->∀ h',h.le h'->K (.bool false) h'):aN prog 38 #[Ft r c A n cap] h K:=by
 refine (fnk func38 (own:=[1])) ?_
 exact Ux rv' hn hl (fun d e mk b h' l _=>⟨_,_,_,_,rfl,hK1 ⟨_,_,mk⟩ h' l⟩) (fun a h' l=>⟨_,_,_,_,rfl,hK0 a h' l⟩)
end
section
variable {α:Type} [E:Enc α]
def OwnSl.app{P:cH}{t e ty:aO}{z:aR}{bytes:Nat}(st:cO P t e z E.default.size bytes){h g o:aD}{A:Option aG}{c:Nat}{xs:List α}(s:Sep h g o)(w:OwnSl o e A c xs){B:Option aG}{d m n:Nat}{ys:List α}(hxn:n=xs.length)(hm:m=ys.length)(hne:ys≠[])(sy:SlF h B ys)(hb:(2*(xs.length+ys.length)+192)*bytes<=281474976710656)(hn:xs.length+ys.length<=9223372036854775807){K:VP}
 (x:∀ A' c' h' g' o',g.le g'->Sep h' g' o'->OwnSl o' e A' c' (xs++ys)->(∀ k u,o k=some u->A≠some ⟨k,0,none⟩->o' k=some u/\A'≠some ⟨k,0,none⟩)->K (.slice A' (xs.length+m) c') h'):
 wpH P (aZ #[t,t] ty #[.slice A n c,.slice B m d]) K h:=by
 subst hxn
 obtain ⟨gb,p,l⟩:=w.priv s
 refine Gc st p hm sy hb hn ?_
 intro A' c' h' g' S L
 rw [bC,<- hm]
 have j:∀ k u,h k=some u->A≠some ⟨k,0,none⟩->g' k=some u:=by
  intro k u a hne
  exact S k u (l k u a hne)
 have H:∀ k u,g k=some u->A≠some ⟨k,0,none⟩:=by
  intro k u a r
  rcases w.2 with ⟨_,h0⟩|⟨i,f,b,C,_⟩
  ·grind
  ·rw [r] at b
   simp only [aP,aU,and_true] at b
   subst b
   rw [s.dis k _ C] at a;cases a
 rcases L.2.2 with ⟨Q,_⟩|⟨i,f,b,C,D,X,R⟩
 ·exfalso
  have:=L.2.1
  simp_all
 ·subst b
  let o':aD:=fun k=>if k=i then some (.cells (bJ f) e) else if A=some ⟨k,0,none⟩ then none else o k
  have N:o' i=some (.cells (bJ f) e):=gz0
  have ok:∀ k,k≠i->A≠some ⟨k,0,none⟩->o' k=o k:=fun k O G=>by grind
  let g2:aD:=fun k=>match o' k with|some _=>none|none=>h' k
  have V:∀ k u,o' k=some u->g2 k=none:=fun k u a=>by grind
  have W:∀ k,o' k=none->g2 k=h' k:=fun k a=>by grind
  have F:∀ k u,k≠i->g' k=some u->h' k=some u:=fun k u O a=>by rw [D,B4 _ _ O];exact a
  have M:∀ k u,o k=some u->A≠some ⟨k,0,none⟩->k≠i:=by
   rintro k u a G rfl
   have:=j k u (s.own k u a) G
   grind
  refine x _ c' h' g2 o' (fun k u a=>?_) ⟨fun k u a=>?_,fun k a=>(W k a).symm,V⟩ ⟨L.2.1,.inr ⟨i,f,rfl,N,X,R⟩⟩ (fun k u a G=>?_)
  ·have T:o k=none:=by
    cases ho:o k with
    | none=>rfl
    | some y=>rw [s.dis k y ho] at a;cases a
   have r:=H k u a
   have e3:=j k u (s.le k u a) r
   grind
  ·by_cases q:k=i
   ·subst q
    rw [N] at a;cases a
    rw [D,B8]
   ·by_cases r:A=some ⟨k,0,none⟩
    ·grind
    ·rw [ok k q r] at a
     exact F k u q (j k u (s.own k u a) r)
  grind
end
def Rh(M:Nat->Nat->Rat)(w:Nat):Nat->List UInt8:=fun k=>K9 (M (k/w) (k%w))
section
variable {h:aD} {K:VP} {A:Option aG} {n cap m w:Nat} {M:Nat->Nat->Rat}
def Uy(rs:RowsV h A n w M)(hn:n<=10000)(hw1:1<=w)(hw:w<=10000)(hn1:1<=n)(hs:∀ i j,i<n->j<w->Sz m (M i j))(hm:m<=400000000)
 (hK:∀ A' c' h',h.le h'->n*w<=c'->RowV SSr h' A' (n*w) (Rh M w)->K (Ft n w A' (n*w) c') h'):aN prog 86 #[.slice A n cap] h K:=by
 refine (fnk func86 [(5,[4],[(3,3)],[I 0,I 0,I 0,.slice none 0 0])] (own:=[2,3]) (wr:=[1000000000])) ?_
 refine D5 (fun e=>oo) (fun _=>?_)
 obtain ⟨a,sv,rfl,G,e2,hc,_⟩:=rs.at (i:=0) oo
 have aa:n*w<=10000*10000:=cK hn hw
 refine ⟨a,rfl,oo,oo,_,_,_,hc,fun L y=>∃ (k:Nat) (g o:aD) (l:List (List UInt8)) (A':Option aG) (c':Nat),k<=n/\L=[I (k:Int),I (n:Int),I (w:Int),.slice A' (k*w) c']/\h.le g/\Sep y g o/\OwnSl o 9 A' c' l/\l.length=k*w/\Row SSr g l (k*w) (Rh M w),fun L _=>n-(iAt L 0).toNat,⟨0,h,Gq,[],none,0,oo,gz0,B3 _,Sep.refl h,OwnSl.nil,by simp,by rw [Nat.zero_mul];exact Row.nil⟩,?_⟩
 rintro z m0 m1 mA mn T y ⟨k,g,o,l,A',c',hk,W,p,s,C,d,F⟩
 obtain ⟨rfl,rfl,rfl,rfl,rfl,rfl⟩:=W
 refine B5 (fun N=>?_) (fun H=>?_)
 ·have b:k<n:=oo
  obtain ⟨a1,s1,ea,S,f2,D,row⟩:=rs.at b
  have B:=A0 p s.le
  have q:(k+1)*w=k*w+w:=gz0
  have Q:(k+1)*w<=n*w:=aI _ b
  refine ⟨a1,ea,oo,oo,_,_,_,C4 B D,?_⟩
  rw [S]
  refine s.call (Tw (row.mono Od p) oo (fun j hj=>hs k j b hj) oo ?_)
  intro b2 g2 own h2 t
  have f:=own.le
  obtain ⟨ys,R,r,qy⟩:=own.vis R2
  refine ⟨_,_,_,rfl,s.le_le t f,?_⟩
  refine OwnSl.app (ty:=52) L0 t C oo r.symm gz0 (R.mono t.le) oo oo ?_
  intro A3 c3 h3 g3 X V s3 x _
  rw [d,<- q,wiS k oo]
  refine ⟨_,_,_,rfl,⟨k+1,g3,X,_,A3,c3,oo,rfl,A0 p (A0 f V),s3,x,gz0,fun i hi=>?_⟩,by simp only [Dj];omega⟩
  by_cases e:i<k*w
  ·obtain ⟨u,G,hu⟩:=F i e
   grind
  ·obtain ⟨j0,rfl⟩:∃ j0,i=k*w+j0:=⟨i-k*w,oo⟩
   have c:j0<w:=oo
   obtain ⟨u,G,hu⟩:=qy j0 c
   refine ⟨u,gz0,?_⟩
   have hd:(k*w+j0)/w=k:=by rw [bU,cX oo,bM c,cD]
   have O:(k*w+j0)%w=j0:=by rw [bU,Nat.mul_add_mod,cU c]
   show u=Rh M w (k*w+j0)
   unfold Rh
   grind
 ·have:k=n:=oo
  subst this
  have E:=C.1
  exact hK mA T y (A0 p s.le) oo ⟨l,C.slF s.ole,d,F.mono R2 s.le⟩
end
abbrev ecE(M:Nat->Nat->Rat)(n c:Nat):ES:=A7k n ⟨M,[],1⟩ c
abbrev qc(w:QV):List aR:=[.bool w.s,.slice w.A w.n w.c,.bool w.s2,.slice w.A2 w.n2 w.c2]
section
variable {g o h11 h14 h15 hp2:aD} {bo n w r c i B:Nat} {rb:Nat->Nat} {R:Nat->Nat->Rat} {x:QV} {q:Rat} {Invv Invv3:LP} {muv muv3:LN}
end
section
variable {g o h5 h9 hp2:aD} {bo n w r c B k:Nat} {rb:Nat->Nat} {R:Nat->Nat->Rat} {q:Rat} {Invv:LP} {muv:LN} {pA:Option aG} {pc:Nat} {wd wd0:QV} {l:List Nat}
end
section
variable {h:aD} {K:VP} {A:Option aG} {n cap m w:Nat} {M:Nat->Nat->Rat}
end
section
variable {h:aD} {K:VP} {A B:Option aG} {n m a b:Nat} {r c r2 c2:Int} {ls ls2:Nat->List UInt8}
def Rd{k:Int}(r:RowV SSr h A n ls)(hn:n<=1000000000)(hK1:(∀ i,i<n->((ls i).length:Int)<=k)->K (.bool true) h)(hK0:¬ (∀ i,i<n->((ls i).length:Int)<=k)->K (.bool false) h):aN prog 23 #[I k,.slice A n a] h K:=by
 refine (fnk func23 [(2,[5],[],[I 0])]) ?_
 refine ⟨fun L c=>∃ i:Nat,i<=n/\L=[I (i:Int)]/\c=h/\∀ j,j<i->((ls j).length:Int)<=k,fun L _=>n-(iAt L 0).toNat,⟨0,o,rfl,rfl,fun j l=>o⟩,?_⟩
 rintro z c ⟨i,t,s,rfl,d⟩
 obtain rfl:=sI1 s
 refine B5 (fun g=>?_) (fun f=>?_)
 ·have b:i<n:=o
  obtain ⟨x,rfl,m⟩:=r.sat b
  refine ⟨x,rfl,o,o,_,m,?_⟩
  rw [G7]
  refine B5 (fun e=>hK0 fun q=>by have:=q i b;omega) (fun e=>?_)
  rw [wiS i o]
  refine ⟨⟨i+1,o,rfl,rfl,fun j l=>?_⟩,by simp only [Dj];omega⟩
  by_cases p:j=i
  ·subst p;omega
  ·exact d j o
 ·have:i=n:=o
  subst this
  exact hK1 d
def Eo(x:RowV SSr h A n ls)(y:RowV SSr h B m ls2)(hn:n<=1000000000)(hK1:n=m->(∀ i,i<n->ls i=ls2 i)->K (.bool true) h)(hK0:¬ (n=m/\∀ i,i<n->ls i=ls2 i)->K (.bool false) h):aN prog 82 #[.slice A n a,.slice B m b] h K:=by
 refine (fnk func82 [(4,[5],[],[I 0])]) ?_
 refine K8 (fun e=>hK0 fun g=>e o) (fun e=>?_)
 have e:n=m:=o
 subst e
 refine ⟨fun L d=>∃ i:Nat,i<=n/\L=[I (i:Int)]/\d=h/\∀ j,j<i->ls j=ls2 j,fun L _=>n-(iAt L 0).toNat,⟨0,o,rfl,rfl,fun j q=>o⟩,?_⟩
 rintro z d ⟨i,w,t,rfl,f⟩
 obtain rfl:=sI1 t
 refine B5 (fun p=>?_) (fun l=>?_)
 ·have c:i<n:=o
  obtain ⟨u,rfl,r⟩:=x.sat c
  obtain ⟨v,rfl,k⟩:=y.sat c
  refine ⟨u,rfl,o,o,_,r,v,rfl,o,o,_,k,?_⟩
  rw [Gu]
  refine Br.not (B5 (fun e=>?_) (fun e=>hK0 fun g=>e (g.2 i c)))
  rw [wiS i o]
  refine ⟨⟨i+1,o,rfl,rfl,fun j q=>?_⟩,by simp only [Dj];omega⟩
  by_cases s:j=i
  ·subst s;exact e
  ·exact f j o
 ·have:i=n:=o
  subst this
  exact hK1 rfl f
def Zt{xs:List Int}(s:SlF h A xs){i:Nat}(hi:i<xs.length):∃ x,A=some x/\h.cell? (aC x (i*1))=some (I xs[i]):=by
 obtain ⟨x,e,a⟩:=SlF.at dc s hi
 have:=a 0 _ rfl
 rw [Jc] at this
 exact ⟨x,e,this⟩
def Ut{xs ys:List Int}(x:SlF h A xs)(y:SlF h B ys)(hn:n=xs.length)(hm:m=ys.length)(hb:n<=1000000000)(hK1:xs=ys->K (.bool true) h)(hK0:xs≠ys->K (.bool false) h):aN prog 83 #[.slice A n a,.slice B m b] h K:=by
 refine (fnk func83 [(4,[5],[],[I 0])]) ?_
 refine K8 (fun e=>hK0 fun d=>e (by rw [hn,hm,d])) (fun e=>?_)
 have e:n=m:=o
 subst e
 refine ⟨fun L f=>∃ i:Nat,i<=n/\L=[I (i:Int)]/\f=h/\∀ j,j<i->xs[j]? = ys[j]?,fun L _=>n-(iAt L 0).toNat,⟨0,o,rfl,rfl,fun j c=>o⟩,?_⟩
 rintro z f ⟨i,C,w,rfl,k⟩
 obtain rfl:=sI1 w
 refine B5 (fun r=>?_) (fun q=>?_)
 ·have l:i<xs.length:=o
  have g:i<ys.length:=o
  obtain ⟨u,rfl,s⟩:=Zt x l
  obtain ⟨v,rfl,p⟩:=Zt y g
  refine ⟨u,rfl,o,o,_,s,v,rfl,o,o,_,p,?_⟩
  refine K8 (fun e=>hK0 fun d=>e (by simp only [d])) (fun e=>?_)
  rw [wiS i o]
  refine ⟨⟨i+1,o,rfl,rfl,fun j c=>?_⟩,by simp only [Dj];omega⟩
  by_cases t:j=i
  ·subst t;rw [aM l,aM g,e]
  ·exact k j o
 ·have:i=n:=o
  subst this
  refine hK1 (List.ext_getElem? fun j=>?_)
  by_cases c:j<i
  ·exact k j c
  ·rw [aW o,aW o]
def Cw(x:RowV SSr h A n ls)(y:RowV SSr h B m ls2)(hn:n<=1000000000)(hK1:r=r2->c=c2->n=m->(∀ i,i<n->ls i=ls2 i)->K (.bool true) h)(hK0:¬ (r=r2/\c=c2/\n=m/\∀ i,i<n->ls i=ls2 i)->K (.bool false) h):aN prog 36 #[Ft r c A n a,Ft r2 c2 B m b] h K:=by
 refine (fnk func36 (own:=[2,3])) ?_
 refine D5 (fun f=>D5 (fun l=>?_) (fun e=>hK0 fun d=>e d.2.1)) (fun e=>hK0 fun d=>e d.1)
 exact Eo x y hn (fun k g=>⟨_,rfl,hK1 f l k g⟩) (fun d=>⟨_,rfl,hK0 fun j=>d j.2.2⟩)
structure Small (r c:Int) (n:Nat) (ls:Nat->List UInt8) (k d:Int):Prop where
 hr:r<=k
 hc:c<=k
 hn:(n:Int)<=k*k+2
 hl:∀ i,i<n->((ls i).length:Int)<=d
end
def Th(ls:List (List UInt8)):(ls.flatMap fun l=>[aF (bs l)])=ls.map fun l=>aF (bs l):=by
 induction ls with
 | nil=>rfl
 | cons x l ih=>rw [List.flatMap_cons,ih];rfl
def W4{h:aD}{A:Option aG}{ls:List (List UInt8)}(s:SlV h A (ls.map fun l=>aF (bs l))):RowV SSr h A ls.length (fun i=>ls.getD i []):=by
 refine ⟨ls,?_,rfl,fun i a=>⟨ls[i],aM a,?_⟩⟩
 ·show SlV h A (ls.flatMap fun l=>[aF (bs l)])
  rw [Th];exact s
 ·show ls[i]=ls.getD i []
  simp [a]
def Lb(l:List Rat):rvs (fun i=>(l.map K9).getD i [])=fun i=>l.getD i 0:=by
 funext i
 show rv ((l.map K9).getD i [])=_
 by_cases a:i<l.length
 ·rw [aJ,aJ,bK,aM a]
  exact Sk _
 ·rw [aJ,aJ,bK,aW o]
  exact A25 (by rintro ⟨q,b⟩;exact absurd b.symm (by
   have:=Wb q
   obtain ⟨c,r,e,_⟩:=this
   rw [e];simp))
def A4w:K9 1=[49]:=by
 have:J2 1=[49]:=by decide +kernel
 simp [K9,Fk,this]
def A57:K9 2=[50]:=by
 have:J2 2=[50]:=by decide +kernel
 have a:(2:Rat).den=1:=by decide +kernel
 have b:(2:Rat).num=2:=by decide +kernel
 simp [K9,Fk,this,a,b]
def A8z:K9 3=[51]:=by
 have:J2 3=[51]:=by decide +kernel
 have a:(3:Rat).den=1:=by decide +kernel
 have b:(3:Rat).num=3:=by decide +kernel
 simp [K9,Fk,this,a,b]
def A7j:K9 4=[52]:=by
 have:J2 4=[52]:=by decide +kernel
 have a:(4:Rat).den=1:=by decide +kernel
 have b:(4:Rat).num=4:=by decide +kernel
 simp [K9,Fk,this,a,b]
def A7q:K9 (-2)=[45,50]:=by
 have:J2 2=[50]:=by decide +kernel
 have a:(-2:Rat).den=1:=by decide +kernel
 have b:(-2:Rat).num= -2:=by decide +kernel
 simp [K9,Fk,this,a,b]
def aw1:(elE (fun i=>([2,4,1,2]:List Rat).getD i 0) 2 2 2).cs=[0]:=by decide +kernel
def aw2:∀ k,k<4->A3c (fun i=>([2,4,1,2]:List Rat).getD i 0) 2 2 k=([1,2,0,0]:List Rat).getD k 0:=by decide +kernel
def aw3:A50 (fun i=>([1,2,3,4]:List Rat).getD i 0) 2= -2:=by decide +kernel
def Ki{h:aD}{K:VP}(gl:Gl h)(hK:∀ h',h.le h'->K (.bool true) h'):aN prog 31 #[] h K:=by
 refine (fnk func31 (own:=[1,2])) ?_
 have y:∀ (ls:List (List UInt8)),(∀ x∈ls,x.length<=1)->∀ i,i<ls.length->(ls.getD i []).length<=1:=by
  intro ls h i c
  rw [aJ,aM c]
  exact h _ (List.getElem_mem c)
 refine Rc L0 (ls:=[2,4,1,2].map K9) rfl (by simp) (by rw [show ([2,4,1,2]:List Rat).map K9=[[50],[52],[49],[50]] by simp [A4w,A57,A7j]];rfl) ?_
 intro R X A L
 have D:=W4 L
 have t:=y (([2,4,1,2]:List Rat).map K9) (by simp [A4w,A57,A7j])
 refine ⟨_,_,_,rfl,?_⟩
 have F:∀ b a,MOk 2 2 4 (fun i=>(([2,4,1,2]:List Rat).map K9).getD i []) b a->2*(3^a*bnd a 4)+1<=40000000:=by
  intro b a mk
  have:=mk.ec
  have:a=2:=o
  subst this
  decide
 refine Oc (m:=4) (gl.mono A) D (by simp) (fun i c=>aY (t i c) o) (fun i c=>A5f (k:=1) (t i c) o) F ?_ ?_
 ·intro b a mk b2 T A' r own
  have e1:=mk.er;have e2:=mk.ec
  have:b=2:=o
  subst this
  have:a=2:=o
  subst this
  have O:=own.le
  have p:=own.strs
  have n:=own.ints
  rw [Lb] at p n
  rw [aw1] at n
  refine ⟨_,_,_,_,_,_,_,_,_,rfl,?_⟩
  rw [Lb,aw1]
  refine Rc L0 (ls:=[1,2,3,4].map K9) rfl (by simp) (by rw [show ([1,2,3,4]:List Rat).map K9=[[49],[50],[51],[52]] by simp [A4w,A57,A8z,A7j]];rfl) ?_
  intro V h3 u N
  have C:=W4 N
  have z:=y (([1,2,3,4]:List Rat).map K9) (by simp [A4w,A57,A8z,A7j])
  refine ⟨_,_,_,rfl,?_⟩
  have j:=A0 A (A0 O u)
  have g:Mx 2 2 4 (fun i=>(([1,2,3,4]:List Rat).map K9).getD i []):=by
   refine Fg.2 ⟨⟨o,o,o,o,o⟩,fun i c=>?_⟩
   have f:i<([1,2,3,4]:List Rat).length:=c
   exact ⟨([1,2,3,4]:List Rat)[i],by rw [aJ,bK,aM f];rfl⟩
  refine Xy (m:=4) (gl.mono j) C (by simp) (fun i c=>aY (z i c) o) (fun i c=>A5f (k:=1) (z i c) o) ?_ ?_ (fun _ e=>absurd rfl e) (fun d=>absurd g d)
  ·intro b a mk
   have:=mk.ec
   have:a=2:=o
   subst this
   decide
  ·intro q mk W w
   have:q=2:=by have:=mk.er;omega
   subst this
   rw [Lb,aw3]
   refine ⟨_,_,rfl,D5 (fun _=>?_) (fun e=>absurd rfl e)⟩
   refine Rc L0 (ls:=[1,2,0,0].map K9) rfl (by simp) (by rw [show ([1,2,0,0]:List Rat).map K9=[[49],[50],[48],[48]] by simp [A4w,A57,Hs]];rfl) ?_
   intro S G s Q
   have H:=W4 Q
   refine ⟨_,_,_,rfl,?_⟩
   have l:=A0 u (A0 w s)
   refine Eo (p.mono R2 l) H (by simp) (fun _ _=>⟨_,rfl,?_⟩) (fun d=>absurd ⟨rfl,fun i c=>?_⟩ d)
   ·refine N9 A5a rfl ?_
    intro E M
    refine ⟨_,_,_,rfl,?_⟩
    have B:=Heap.le_put (.cells #[I (0:Int)] 3) M
    refine Ut (n.1.mono (A0 l B)) (Rq 3 G E ([0]:List Int)) rfl rfl (by simp) (fun _=>⟨_,rfl,?_⟩) (fun d=>absurd rfl d)
    have:(ByteArray.toList (bs (K9 (-2)))==ByteArray.toList ({ data:=#[45,50] }:ByteArray))=true:=by
     rw [A7q]
     exact (Gu _ _).trans dc
    rw [this]
    have:=hK _ (A0 j (A0 w (A0 s B)))
    exact this
   ·show K9 (A3c (fun i=>([2,4,1,2]:List Rat).getD i 0) 2 2 i)=(([1,2,0,0]:List Rat).map K9).getD i []
    have f:i<([1,2,0,0]:List Rat).length:=c
    rw [aw2 i c,aJ,aJ,bK,aM f]
    rfl
 ·intro d
  exfalso
  refine d (Fg.2 ⟨⟨o,o,o,o,by simp⟩,fun i c=>?_⟩)
  have f:i<([2,4,1,2]:List Rat).length:=c
  exact ⟨([2,4,1,2]:List Rat)[i],by rw [aJ,bK,aM f];rfl⟩
def A77{P:cH}{t e' ty:aO}{z:aR}{bytes:Nat}(s:cO P t e' z 1 bytes){h g o:aD}{b:Nat}{arr:List aR}{e:aO}(sp:Sep h g o)(ho:o b=some (.cells arr.toArray e)){d n c m cc:Nat}(hd:d+n<=arr.length){B:Option aG}{ys:List aR}(sy:SlV h B ys)(hm:min m n=ys.length)(h1:∀ v∈ys,Qx v=true){K:VP}
 (x:∀ h',Sep h' g (o.put b (.cells (H0 arr d ys).toArray e))->K (I ys.length) h'):wpH P (dH #[t,t] ty #[.slice (some ⟨b,d,none⟩) n c,.slice B m cc]) K h:=by
 obtain ⟨i,p,q,j,k⟩:=s.parts
 have l:ys.length<=n:=oo
 unfold dH
 simp only [bL,bY,bZ,C0,D3 s.und,H1 p,F3,Builtin.lenOf,j]
 have a:Nat.min m n=ys.length:=hm
 rw [a]
 refine Cy (s:=1) (cs:=ys) (by simp) sy ?_
 simp only [C0]
 have f:h.put b (.cells arr.toArray e)=h:=Fh (sp.own b _ ho)
 rw [<- f]
 refine G1 ys d 0 arr oo h1 ?_
 exact x _ (sp.upd ho _)
section
variable {h:aD} {K:VP} {A:Option aG} {n ac N cap:Nat} {r c:Int} {la:Nat->List UInt8}
def Wu(x:List UInt8)(n:Nat):(aE n x).flatMap enc=aE n (aF (bs x)):=by
 have a:(aE n x).flatMap enc=(aE n x).flatMap fun l=>[aF (bs l)]:=rfl
 rw [a,Th,List.map_replicate]
def Ob{v:ByteArray}(s:SlV h A [.string v])(hN:1<=N)(hl:N<=1000000)
 (hK:∀ b h' o',Sep h' h o'->o' b=some (.cells (aE N (aF v)).toArray 9)->K (.slice (some ⟨b,0,none⟩) N N) h'):aN prog 85 #[.slice A 1 ac,I (N:Int)] h K:=by
 refine (fnk func85 [(8,[8],[],[I 0])]) ?_
 refine B5 (fun f=>oo) (fun _=>?_)
 rw [B9 (n:=((1:Nat):Int)) oo oo,B9 (n:=(N:Int)) oo oo]
 refine Zk oo oo ⟨_,_,rfl,?_⟩
 have G:((1:Nat):Int)*(N:Int)/18446744073709551616=0:=oo
 have E:((1:Nat):Int)*(N:Int)%18446744073709551616=N:=oo
 rw [G,E]
 refine B5 (fun f=>oo) (fun _=>?_)
 refine B5 (fun f=>oo) (fun _=>?_)
 rw [B6 (n:=(N:Int)) oo oo]
 refine T9 L0 (zx:=([]:List UInt8)) rfl oo oo oo oo ?_
 intro b p
 simp only [aQ]
 refine ⟨_,_,_,rfl,?_⟩
 have q:=(Sep.refl h).new p (.cells ((aE N ([]:List UInt8)).flatMap enc).toArray 9)
 have r:h.le (h.put b (.cells ((aE N ([]:List UInt8)).flatMap enc).toArray 9)):=Heap.le_put _ p
 rw [Wu] at q r
 show wpH _ (dH _ _ _) _ (h.put b (.cells ((aE N ([]:List UInt8)).flatMap enc).toArray 9))
 rw [Wu]
 refine A77 L0 q (B8 _ _ _) (d:=0) (by simp) (s.mono r) (by simp;omega) (fun w F=>by rw [List.mem_singleton.1 F];rfl) ?_
 intro f t
 refine ⟨_,rfl,?_⟩
 have cut:H0 (aE N (aF (bs []))) 0 [aF v]=aE 1 (aF v)++aE (N-1) (aF (bs [])):=by
  unfold H0
  simp
 rw [cut] at t
 refine ⟨fun l c=>∃ (k:Nat) (o:aD),l=[I (k:Int)]/\0<k/\k<=N/\Sep c h o/\o b=some (.cells (aE k (aF v)++aE (N-k) (aF (bs []))).toArray 9),fun l _=>N-(iAt l 0).toNat,⟨1,_,rfl,oo,hN,t,B8 _ _ _⟩,?_⟩
 rintro i c ⟨k,o,m,D,y,w,e⟩
 obtain rfl:=sI1 m
 refine B5 (fun B=>?_) (fun B=>?_)
 ·refine ⟨⟨oo,oo⟩,⟨oo,oo⟩,?_⟩
  simp only [aQ,F2,Nat.sub_zero]
  rw [Iv oo,D4,aL,Nat.mul_one]
  have j:(aE k (aF v)++aE (N-k) (aF (bs []))).length=N:=by simp;omega
  have C:SlV c (some ⟨b,0,none⟩) (aE (min k (N-k)) (aF v)):=by
   right
   refine ⟨_,rfl,fun i u a=>?_⟩
   have g:i<min k (N-k):=by
    by_cases g:i<min k (N-k)
    ·exact g
    ·rw [aW (by rw [aK];omega)] at a;cases a
   rw [bG,iP g] at a
   rw [D4,aL]
   unfold Heap.cell?
   simp only [w.own b _ e,Option.isSome_none,Bool.false_eq_true,if_false,bL]
   rw [dG (by rw [aK];omega),bG,iP oo]
   exact a
  refine A77 L0 w e (d:=k) (by rw [j];omega) C (by rw [aK]) (fun u a=>by rw [List.eq_of_mem_replicate a];rfl) ?_
  intro L x
  rw [aK]
  have H:B7 ((k:Int)+(min k (N-k):Nat))=((k+min k (N-k):Nat):Int):=by rw [B6 oo oo];omega
  have z:H0 (aE k (aF v)++aE (N-k) (aF (bs []))) k (aE (min k (N-k)) (aF v))=aE (k+min k (N-k)) (aF v)++aE (N-(k+min k (N-k))) (aF (bs [])):=by
   unfold H0
   rw [List.take_left' (by simp),aK,List.drop_append,dK (by rw [aK];omega),List.nil_append,aK,List.drop_replicate,List.replicate_append_replicate]
   congr 2
   omega
  rw [z] at x
  refine ⟨_,rfl,?_⟩
  rw [H]
  exact ⟨⟨k+min k (N-k),_,rfl,oo,oo,x,B8 _ _ _⟩,by simp only [Dj];omega⟩
 ·have:k=N:=oo
  subst this
  rw [Nat.sub_self,List.replicate_zero,List.append_nil] at e
  exact hK b c o w e
def idT(q k:Nat):Nat->List UInt8:=fun t=>if t/q=t%q/\t/q<k then [49] else [48]
def Rb{q:Nat}(hq1:1<=q)(hq2:q<=64)
 (hK:∀ b h',h.le h'->RowV SSr h' (some ⟨b,0,none⟩) (q*q) (fun t=>K9 (if t/q=t%q then 1 else 0))->K (.tuple #[Ft (q:Int) (q:Int) (some ⟨b,0,none⟩) (q*q) (q*q),I 0]) h'):aN prog 34 #[I (q:Int)] h K:=by
 refine (fnk func34 [(5,[22],[],[I 0])] (own:=[2,4])) ?_
 have N:q*q<=64*64:=cK hq2 hq2
 have B:1<=q*q:=Nat.mul_pos hq1 hq1
 refine B5 (fun E=>oo) (fun _=>B5 (fun E=>oo) (fun _=>?_))
 refine N9 L0 rfl ?_
 intro l u
 refine ⟨_,_,_,rfl,?_⟩
 have y:B7 ((q:Int)*(q:Int))=((q*q:Nat):Int):=by rw [<- cG];exact R7 oo
 rw [y]
 have W:h.le (h.put l (.cells #[.string ({ data:=#[48] }:ByteArray)] 9)):=Heap.le_put _ u
 have sv:SlV (h.put l (.cells #[.string ({ data:=#[48] }:ByteArray)] 9)) (some ⟨l,0,none⟩) [.string (bs [48])]:=by
  right
  refine ⟨_,rfl,fun i v j=>?_⟩
  rw [D4,aL,D6]
  have e:(#[aF { data:=#[48] }]:Array aR)[i]? = ([aF (bs [48])]:List aR)[i]? :=by
   rw [show (#[aF { data:=#[48] }]:Array aR)=([aF (bs [48])]:List aR).toArray from rfl,bL]
  rw [e]
  exact j
 refine Ob sv B oo ?_
 intro b E V s1 w
 refine ⟨_,_,_,rfl,?_⟩
 refine ⟨fun L p=>∃ (k:Nat) (o:aD) (a:List aR),k<=q/\L=[I (k:Int)]/\Sep p (h.put l (.cells #[.string ({ data:=#[48] }:ByteArray)] 9)) o/\o b=some (.cells a.toArray 9)/\a.length=q*q/\(∀ t,t<q*q->a[t]? = some (.string (bs (idT q k t)))),fun L _=>q-(iAt L 0).toNat,⟨0,V,_,oo,rfl,s1,w,aK,fun t f=>by
  rw [bG,iP f]
  unfold idT
  rw [iN oo]⟩,?_⟩
 rintro z p ⟨k,o,a,hk,T,s,F,A,d⟩
 obtain rfl:=sI1 T
 refine B5 (fun g=>?_) (fun M=>?_)
 ·have c:k<q:=oo
  have H:=Gr c c
  have R:B7 (B7 ((k:Int)*(q:Int))+(k:Int))=((k*q+k:Nat):Int):=by
   rw [<- cG,R7 oo]
   exact R7 (n:=k*q+k) oo
  rw [R]
  refine ⟨_,rfl,oo,oo,?_⟩
  simp only [aQ]
  rw [Nat.mul_one]
  refine Mj Bm rfl rfl s F (by rw [List.size_toArray];omega) ?_
  intro h2 S Q X
  rw [wiS k oo]
  refine ⟨⟨k+1,S,a.set (k*q+k) (.string (bs [49])),oo,rfl,Q,?_,by rw [List.length_set];exact A,fun t f=>?_⟩,by simp only [Dj];omega⟩
  ·rw [X,B8]
   simp
   rfl
  ·have C:(k*q+k)/q=k/\(k*q+k)%q=k:=by
    rw [cQ,dD,cU c,Nat.add_mul_div_right _ _ oo,bM c,aL]
    exact ⟨rfl,rfl⟩
   by_cases e:t=k*q+k
   ·subst e
    rw [dJ oo]
    unfold idT
    rw [C.1,C.2,iP ⟨rfl,oo⟩]
   ·rw [cL (fun x=>e x.symm),d t f]
    unfold idT
    by_cases m:t/q=t%q/\t/q<k
    ·rw [iP m,iP ⟨m.1,oo⟩]
    ·rw [iN m,iN (fun x=>?_)]
     refine m ⟨x.1,?_⟩
     have O:t/q≠k:=fun e3=>e (by
      have D:=Nat.div_add_mod t q
      rw [<- x.1,e3] at D
      rw [<- D,bU])
     omega
 ·have:k=q:=oo
  subst this
  refine hK b p (A0 W s.le) ?_
  have G:RowV SSr p (some ⟨b,0,none⟩) ((List.range (k*k)).map (idT k k)).length (fun i=>((List.range (k*k)).map (idT k k)).getD i []):=by
   refine W4 ?_
   right
   refine ⟨_,rfl,fun i v j=>?_⟩
   have r:i<k*k:=by
    by_cases r:i<k*k
    ·exact r
    ·rw [aW (by simp;omega)] at j;cases j
   rw [D4,aL]
   unfold Heap.cell?
   simp only [s.own b _ F,Option.isSome_none,Bool.false_eq_true,if_false,bL]
   rw [d i r]
   simpa [r] using j
  rw [List.length_map,List.length_range] at G
  refine G.congr fun t f=>?_
  have g:t/k<k:=aX f
  have:((List.range (k*k)).map (idT k k)).getD t []=idT k k t:=by simp [f]
  rw [this]
  unfold idT
  by_cases e:t/k=t%k
  ·rw [iP ⟨e,g⟩,iP e,A4w]
  ·rw [iN (fun x=>e x.1),iN e,Hs]
end
section
variable {h:aD} {K:VP} {A B:Option aG} {n cap m:Nat} {r c:Int} {ls:Nat->List UInt8}
end
section
variable {h:aD} {K:VP} {A:Option aG} {n cap m w:Nat} {r c:Int} {ls:Nat->List UInt8} {M:Nat->Nat->Rat}
end
section
variable {α β:Type} {R:aD->α->β->Prop} {g:aD}
def Row.app{xs ys:List α}{f:Nat->β}{p q:Nat}(hp:xs.length=p)(r:Row R g xs p f)(r2:Row R g ys q (fun j=>f (p+j))):Row R g (xs++ys) (p+q) f:=fun i b=>by
 by_cases h:i<p
 ·obtain ⟨w,e,x⟩:=r i h
  exact ⟨w,by rw [dG o];exact e,x⟩
 ·obtain ⟨w,e,x⟩:=r2 (i-p) o
  refine ⟨w,by rw [dE o,hp];exact e,?_⟩
  have a:p+(i-p)=i:=o
  show R g w (f i)
  rw [<- a];exact x
end
section
variable {h:aD} {K:VP} {A:Option aG} {n cap m:Nat} {r c:Int} {ls:Nat->List UInt8}
end
section
variable {h:aD} {K:VP} {A:Option aG} {n cap m w:Nat} {r c:Int} {ls:Nat->List UInt8} {R:Nat->Nat->Rat}
def Ri(hn:n<=10000)(hw:w<=10000)
 (hK:∀ h' g' o' bo rb,h.le g'->Mt h' g' o' bo rb n w (fun _ _=>0)->K (.slice (some ⟨bo,0,none⟩) n n) h'):aN prog 156 #[I (n:Int),I (w:Int)] h K:=by
 refine (fnk func156 [(3,[6],[],[I 0])]) ?_
 refine T9 A91 (zx:=(⟨none,0,0⟩:HV)) rfl oo oo oo oo ?_
 intro bo u
 simp only [aQ]
 refine ⟨_,_,_,rfl,fun L B=>∃ (k:Nat) (g o:aD) (l:List HV) (rb:Nat->Nat),k<=n/\L=[I (k:Int)]/\h.le g/\Sep B g o/\RowX o bo l/\l.length=n/\(∀ i,i<k->l[i]? = some ⟨some ⟨rb i,0,none⟩,w,w⟩)/\(∀ i,i<k->rb i≠bo)/\(∀ i j,i<k->j<k->rb i=rb j->i=j)/\(∀ i,i<k->RowX o (rb i) (aE w Vt)),fun L _=>n-(iAt L 0).toNat,
  ⟨0,h,Gq.put bo _,aE n ⟨none,0,0⟩,fun _=>0,oo,rfl,B3 _,Kj u,RowX.mk,aK,fun i a=>oo,fun i a=>oo,fun i j a=>oo,fun i a=>oo⟩,?_⟩
 rintro z B ⟨k,g,o,l,rb,X,V,G,s,C,N,M,t,O,A⟩
 obtain rfl:=sI1 V
 refine B5 (fun T=>?_) (fun S=>?_)
 ·have R:k<n:=oo
  refine T9 A59 (zx:=Vt) rfl oo oo oo oo ?_
  intro b d
  simp only [aQ]
  have p:∀ q x,o q=some x->q≠b:=by
   rintro q x e rfl
   rw [s.own q x e] at d;cases d
  have c:bo≠b:=by obtain ⟨e,F⟩:=C;exact p _ _ F
  have f:∀ i,i<k->rb i≠b:=fun i a=>by obtain ⟨e,F⟩:=A i a;exact p _ _ F
  refine ⟨_,_,_,rfl,_,rfl,oo,oo,?_⟩
  refine Gd Sh (y:=(⟨some ⟨b,0,none⟩,w,w⟩:HV)) rfl (s.new d _) (C.other c _) (i:=k) oo ?_
  intro h5 H x5 m W D
  rw [wiS k oo]
  refine ⟨⟨k+1,g,H,_,fun i=>if i=k then b else rb i,oo,rfl,G,W,D,by rw [List.length_set];exact N,fun i a=>?_,fun i a=>?_,fun i j a Q e=>?_,fun i a=>?_⟩,by simp only [Dj];omega⟩
  ·show (l.set k _)[i]? = some (⟨some ⟨if i=k then b else rb i,0,none⟩,w,w⟩:HV)
   by_cases e:i=k
   ·subst e
    rw [iP rfl,dJ oo]
   ·rw [iN e,cL (fun x=>e x.symm)]
    exact M i oo
  ·show (if i=k then b else rb i)≠bo
   by_cases e:i=k
   ·rw [iP e];exact c.symm
   ·rw [iN e];exact t i oo
  ·change (if i=k then b else rb i)=(if j=k then b else rb j) at e
   by_cases E:i=k
   ·by_cases r:j=k
    ·omega
    ·rw [iP E,iN r] at e
     exact absurd e.symm (f j oo)
   ·by_cases r:j=k
    ·rw [iN E,iP r] at e
     exact absurd e (f i oo)
    ·rw [iN E,iN r] at e
     exact O i j oo oo e
  ·show RowX H (if i=k then b else rb i) _
   by_cases e:i=k
   ·rw [iP e,m]
    exact RowX.mk.other c.symm _
   ·rw [iN e,m]
    exact ((A i oo).other (f i oo) _).other (t i oo) _
 ·have:k=n:=oo
  subst this
  refine hK B g o bo rb G ⟨s,⟨l,C.rowB,N,fun i a=>⟨w,M i a,aH _⟩⟩,t,O,fun i a=>⟨_,(A i a).rowB,aK,fun j Q=>⟨Vt,by rw [bG,iP Q],NQ.zero⟩⟩⟩
end
def Br.nt{X Y:Prop}(y:Y):Br (!true) X Y:=y
def A02{X Y:Prop}(x:X):Br (!false) X Y:=x
structure MOut where
 r:Int
 c:Int
 n:Nat
 f:Nat->List UInt8
 e:Int
def noM(e:Int):MOut:=⟨0,0,0,fun _=>[],e⟩
section
variable {h:aD} {K:VP} {A B:Option aG} {n n2 cap cap2 m w:Nat} {r c r2 c2:Int} {la lb:Nat->List UInt8}
end
structure VV where
 A:Option aG
 n:Nat
 c:Nat
 s:Bool
 B:Option aG
 bn:Nat
 bc:Nat
abbrev VV.v(w:VV):aR:=.agg #[.slice w.A w.n w.c,.bool w.s,.slice w.B w.bn w.bc]
instance:Enc VV:=⟨⟨fun w=>[.slice w.A w.n w.c,.bool w.s,.slice w.B w.bn w.bc],3,fun _=>rfl,fun w v hv=>by
 simp only [List.mem_cons,List.not_mem_nil,or_false] at hv
 rcases hv with rfl|rfl|rfl<;>rfl⟩⟩
section
variable {h:aD} {K:VP} {A B:Option aG} {n cap m w:Nat} {f f2:Nat->Rat}
end
section
variable {h:aD} {K:VP} {A:Option aG} {cap m rows cols:Nat} {E:Nat->Rat}
end
section
variable {h:aD} {K:VP} {A B:Option aG} {n n2 cap cap2 m:Nat} {r c r2 c2:Int} {la lb:Nat->List UInt8} {w:QV} {q:Rat}
end
section
variable {h:aD} {K:VP} {A B:Option aG} {n w cap cap2 m:Nat} {f f2:Nat->Rat} {R:Nat->Nat->Rat}
end
structure VOut where
 n:Nat
 f:Nat->List UInt8
 e:Int
section
variable {h:aD} {K:VP} {A B:Option aG} {n n2 cap cap2 m:Nat} {r c:Int} {la lx:Nat->List UInt8}
end
section
variable {h:aD} {K:VP} {A B:Option aG} {n n2 cap cap2 m:Nat} {r c:Int} {la lx:Nat->List UInt8}
end
section
variable {h:aD} {K:VP} {A B:Option aG} {n n2 cap cap2 m:Nat} {r c r2 c2:Int} {la lb:Nat->List UInt8} {E:Nat->Rat}
end
section
variable {h:aD} {K:VP} {A:Option aG} {n cap m:Nat} {r c:Int} {la:Nat->List UInt8}
end
section
variable {h g o:aD} {wA B:Option aG} {wc be m d:Nat} {hd:List HV} {xs ys:List QV}
end
def A0c(k:Nat):Nat->Nat->Rat:=fun a b=>if a=b/\a<k then 1 else 0
section
variable {h:aD} {K:VP} {A B:Option aG} {n cap m:Nat} {r c:Int} {la:Nat->List UInt8} {E:Nat->Rat}
def Uw(hn:n<=10000)
 (hK:∀ bo h',h.le h'->RowsV h' (some ⟨bo,0,none⟩) n n (fun a b=>if a=b then 1 else 0)->K (.slice (some ⟨bo,0,none⟩) n n) h'):aN prog 87 #[I (n:Int)] h K:=by
 refine (fnk func87 [(3,[4],[],[I 0])]) ?_
 refine Ri hn hn ?_
 intro E u s bo x y t1
 refine ⟨_,_,_,rfl,fun L d=>∃ (k:Nat) (g o:aD),k<=n/\L=[I (k:Int)]/\h.le g/\Mt d g o bo x n n (A0c k),fun L _=>n-(iAt L 0).toNat,⟨0,u,s,oo,rfl,y,t1.congr fun a b _ _=>by unfold A0c;grind⟩,?_⟩
 rintro z d ⟨k,g,o,D,G,f,t⟩
 obtain rfl:z=(k:Int):=gz0
 refine B5 (fun l=>?_) (fun j=>?_)
 ·have c:k<n:=oo
  obtain ⟨B,m,w⟩:=t.head c
  refine ⟨_,rfl,oo,oo,_,_,_,t.sep.cell w,?_⟩
  refine t.sep.call (A5h ⟨oo,oo⟩ ?_)
  intro C r e q F i
  refine ⟨_,_,_,_,_,_,_,_,rfl,t.sep.le_le i e,_,rfl,oo,oo,?_⟩
  refine (t.next i e).store c c q ?_
  intro H A p _
  rw [wiS k oo]
  refine ⟨⟨k+1,r,A,oo,rfl,A0 f e,p.congr fun a b _ _=>?_⟩,by simp only [Dj];omega⟩
  unfold A7i A0c
  grind
 ·exact hK bo d (A0 f t.sep.le) ((t.rowsV).congr fun a b M _=>by
   unfold A0c
   grind)
end
def A01{X Y:Prop}(x:X):Br true X Y:=x
section
variable {h:aD} {K:VP} {A B:Option aG} {n n2 cap cap2 m:Nat} {r c r2 c2:Int} {la lb:Nat->List UInt8}
end
def Za{i j c:Nat}(hj:j<c):(i*c+j)/c=i/\(i*c+j)%c=j:=by
 rw [cQ,dD,cU hj,Nat.add_mul_div_right _ _ o,bM hj,aL]
 exact ⟨rfl,rfl⟩
section
variable {r c r2 c2:Int} {n n2 m rows mid mid2 cols:Nat} {la lb:Nat->List UInt8} {o:MOut}
end
