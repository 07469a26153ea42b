/- A part. -/
import Derived.Test.YtkfhdoblhajcbaaGreatDoorG19
import Derived.Test.YtkfhdoblhajcbaaGreatDoorG23
open Go.Proofs.Tryz
set_option linter.all false
open _root_.Go.Addr renaming add->aC
open _root_.Go.Addr.mk renaming injEq->aS
open _root_.Go.Builtin renaming append_->aM
open _root_.Go.Instr renaming storeAt->aH,buildSlice->aO
open Int renaming mul_le_mul_of_nonneg_left->bG,pow_pos->bK,toNat_natCast->bX,le_of_lt->bY,gcd->cK,mul_nonneg->cP,eq_ofNat_of_zero_le->cV,mul_zero->cZ,add_zero->dB
open List renaming length_append->aQ,take_append_drop->aT,toArray->aZ,append_assoc->bJ,getElem_mem->bM,take_of_length_le->bU,replicate->bW,take_append_of_le_length->cF,eq_nil_of_length_eq_zero->cG,getElem?_append_right->cN,getD_eq_getElem?_getD->cO,getElem?_eq_getElem->cQ,getElem?_cons_zero->cT,getElem?_cons_succ->cU
open Nat renaming le_refl->aE,mul_le_mul_right->aF,zero_add->aJ,zero_le->aP,pow_le_pow_right->bC,div_lt_of_lt_mul->bD,add_mul->bF,lt_irrefl->bL,mul_comm->bN,add_zero->bO,div_eq_of_lt->bZ,one_mul->cD,mul_add_div->cH,le_antisymm->cI,div_le_self->cJ,mul_le_mul->cL,mod_lt->cM,le_trans->cY
open Option.some renaming injEq->aL
open Rat renaming intCast_mul->aR,add_zero->aV,divInt->aW,mul_zero->aY,mul_comm->bH,divInt_eq_div->bI,div_def->cC,zero_mul->cW,zero_add->cX
open _root_.Go.Value renaming cells->aX
open _root_.Go renaming Addr->aG,TypeId->aK,Value->aN,Program->aU
open _root_.Go.Proofs.YtkfhdoblhajcbaaGreatDoor renaming Heap->aD,FCall->aI,SliceT->bV,IsNum->cR
namespace Go.Proofs.YtkfhdoblhajcbaaGreatDoor
set_option maxRecDepth 20000
open Go
section
set_option maxRecDepth 100000
variable {h:aD} {K:VP}
end
def A6z{x:Nat}{m:Nat}(hx:x<2^m)(hm:1<=m)(k:Nat):x^k<2^(m*k+1):=by
 have a:x^k<=(2^m)^k:=Nat.pow_le_pow_left (Nat.le_of_lt hx) k
 rw [<- Nat.pow_mul] at a
 grind
section
variable {h g:aD} {K:VP} {A B:Option aG} {s s':Bool} {an ac bn bc m:Nat} {x y:Int}
end
def A8h(B:Int):∀ {ts:List Int} {k:Nat} (_:k<ts.length) (v:Int),val B (ts.set k v)=val B ts+B^k*(v-ts.getD k 0)
 | [],k,h,v=>by simp at h
 | t::ts,0,h,v=>by simp [val];grind
 | t::ts,k+1,h,v=>by
  have ih:=A8h B (ts:=ts) (k:=k) gz0 v
  simp only [List.set_cons_succ,val,List.getD_cons_succ,ih,Int.pow_succ]
  grind
section
variable {h g:aD} {K:VP} {A B:Option aG} {s s':Bool} {an ac bn bc m:Nat} {x y:Int}
def A67{hp:aD}{n c k:Nat}{ts:List Int}{ca:Int}(p:Pw hp g A n c ts)(hn:n=ts.length)(dt:Dig b64 ts)(hk:k<n)(hca:0<=ca/\ca<18446744073709551616){Q:Int->aD->Prop}
 (hQ:∀ h' ts',Pw h' g A n c ts'->n=ts'.length->Dig b64 ts'->val b64 ts'+b64^(k+1)*((ts.getD k 0+ca)/18446744073709551616)=val b64 ts+b64^k*ca->Q ((ts.getD k 0+ca)/18446744073709551616) h'):
 ∃ a,A=some a/\0<=(k:Int)/\(k:Int)<((n:Nat):Int)/\∃ (t:Int),Heap.cell? hp (aC a (((k:Int)).toNat*1))=some (U t)/\ECall prog 295 #[U t,U ca,U (0:Int)] hp (fun r hp1=>∃ (ta tb:Int),r= .tuple #[U ta,U tb]/\∃ a2,A=some a2/\0<=(k:Int)/\(k:Int)<((n:Nat):Int)/\wpH prog (aH 195 (.pointer (some (aC a2 (((k:Int)).toNat*1)))) (U ta)) (fun _ hp2=>Q tb hp2) hp1):=by
 have d:ts≠[]:=gz0
 obtain ⟨b,j,w,u⟩:=Ff p d
 have s:=O6 dt k
 refine w.sl.load hn o o ?_
 refine De s hca o ⟨_,_,rfl,?_⟩
 obtain ⟨a,l,_⟩:=SlV.at w.sl (i:=k) gz0
 refine ⟨a,l,o,o,w.storeN F8 l o ?_⟩
 intro q e
 simp only [dB] at e ⊢
 have f:=e.priv (m:=n) (c:=c) (by simp_all) gz0 gz0
 rw [bU gz0] at f
 refine hQ q _ f gz0 (dt.set (Eo _)) ?_
 rw [A8h b64 o,Int.pow_succ]
 grind
def B1q{Invv1:LP}{muv1:LN}{TA:Option aG}{tn tc i x2n:Nat}{ts:List Int}{ca:Int}{hp8 hp7:aD}(p:Pw hp8 g TA tn tc ts)(hn:tn=ts.length)(dt:Dig b64 ts)(hle:i+x2n<=tn)(hca:0<=ca/\ca<18446744073709551616)(hl:tn<=1000000000)
 (hK:∀ TA' tn' tc' ts' h' g',g.le g'->Pw h' g' TA' tn' tc' ts'->tn'=ts'.length->Dig b64 ts'->val b64 ts'=val b64 ts+b64^(i+x2n)*ca->(tn'=tn\/(tn'=tn+1/\b64^tn<=val b64 ts'))->Invv1 [.slice TA' tn' tc',I (C4 ((i:Int)+1))] h'/\muv1 [.slice TA' tn' tc',I (C4 ((i:Int)+1))] h'<muv1 [.slice TA tn tc,I (i:Int)] hp7):
 Dw prog x2n Invv1 muv1 TA tn tc (i:Int) ca hp8 hp7:=by
 unfold Dw
 have X:C4 ((i:Int)+(x2n:Int))=((i+x2n:Nat):Int):=by rw [C1 o o];omega
 rw [X]
 refine ⟨fun L T=>∃ (k:Nat) (c1:Int) (j:List Int) (A1:Option aG) (a b:Nat) (s:aD),L=[.slice A1 a b,U c1,I k]/\g.le s/\Pw T s A1 a b j/\a=j.length/\Dig b64 j/\k<=a/\(0<=c1/\c1<18446744073709551616)/\val b64 j+b64^k*c1=val b64 ts+b64^(i+x2n)*ca/\(a=tn\/(a=tn+1/\c1=0/\b64^tn<=val b64 j)),fun L _=>tn+2-(iAt L 2).toNat,⟨i+x2n,ca,ts,TA,tn,tc,g,rfl,B7 _,p,hn,dt,hle,hca,rfl,.inl rfl⟩,?_⟩
 rintro A1 a b c1 k0 aa ⟨k,O,j,A1',ac,C,s,R,z,F,q,du,hk,d,hv,V⟩
 obtain ⟨⟨rfl,rfl,rfl⟩,rfl,rfl⟩:=R
 refine D9 (fun N=>?_) (fun N=>?_)
 ·have e:a=tn:=by
   omega
  have E:C4 ((k:Int)+1)=((k+1:Nat):Int):=by rw [C1 o o];omega
  have r:∀ (A H D G:aN),tn+2-(iAt [A,H,I ((k+1:Nat):Int)] 2).toNat<tn+2-(iAt [D,G,I (k:Int)] 2).toNat:=by
   intro A H D G
   simp only [iAt,cT,cU]
   omega
  refine D5 (fun w=>?_) (fun w=>?_)
  ·have n:k=a:=o
   refine Dl R8 F rfl rfl o o ?_
   intro A2 c2 h2 Q l2 y
   rw [<- List.map_singleton (f:=Value.int .u64),<- List.map_append] at y
   have M:Dig b64 (j++[0]):=du.append (Dig.one dc)
   refine A67 y gz0 M o d ?_
   intro W m t l u c
   have S:(j++[0]).getD k 0=0:=by
    rw [n,q,List.getD,cN (aE _)];simp
   rw [S,Int.zero_add,Int.ediv_eq_zero_of_lt d.1 d.2] at c ⊢
   rw [E]
   rw [F3,cZ,dB,cZ,dB] at c
   refine ⟨⟨k+1,0,m,A2,a+1,c2,Q,rfl,B0 z l2,t,l,u,o,o,?_,.inr ⟨o,rfl,?_⟩⟩,r _ _ _ _⟩
   ·omega
   ·rw [c,<- e,<- n]
    have h5:=D0 (B:=b64) dc du
    have h6:b64^k*1<=b64^k*c1:=bG o (bY (bK dc))
    omega
  ·refine A67 F q du o d ?_
   intro W m t l u c
   rw [E]
   have gt:=O6 du k
   refine ⟨⟨k+1,_,m,A1,a,b,s,rfl,z,t,l,u,o,?_,?_,.inl e⟩,r _ _ _ _⟩
   ·omega
   omega
 grind
def B4b{XA YA TA:Option aG}{xs ys ts:List Int}{x2n x2c y2n tn tc N:Nat}{hp4:aD}(p:Pw hp4 g TA tn tc ts)(hn:tn=ts.length)(dt:Dig b64 ts)(sx:SlI .u64 g XA xs)(hx:x2n=xs.length)(dx:Dig b64 xs)(sy:SlI .u64 g YA ys)(hy:y2n=ys.length)(dy:Dig b64 ys)(hxy:x2n+y2n<=tn)(hN:tn<=N)(hN2:N<=400000000)(hV:val b64 ts+val b64 xs*val b64 ys<b64^N)
 (hK:∀ TA' tn' tc' ts' h' g',g.le g'->Pw h' g' TA' tn' tc' ts'->tn'=ts'.length->Dig b64 ts'->val b64 ts'=val b64 ts+val b64 xs*val b64 ys->tn'<=N->K (.slice TA' tn' tc') h'):
 Nn prog K XA x2n x2c YA y2n TA tn tc hp4:=by
 have M:=D0 (B:=b64) dc dx
 have i:∀ k,val b64 (ys.take k)<=val b64 ys:=by
  intro k
  have C:=G7 b64 (ys.take k) (ys.drop k)
  rw [aT] at C
  have h2:0<=b64^(ys.take k).length*val b64 (ys.drop k):=cP (bY (bK dc)) (D0 (B:=b64) dc (dy.drop k))
  omega
 refine ⟨fun L hp=>∃ (k:Nat) (a:List Int) (A1:Option aG) (j d:Nat) (F:aD),L=[.slice A1 j d,I k]/\g.le F/\Pw hp F A1 j d a/\j=a.length/\Dig b64 a/\k<=y2n/\val b64 a=val b64 ts+val b64 xs*val b64 (ys.take k)/\x2n+y2n<=j/\j<=N,fun L _=>y2n-(iAt L 1).toNat,⟨0,ts,TA,tn,tc,g,rfl,B7 _,p,hn,dt,o,by simp [val],hxy,hN⟩,?_⟩
 rintro A1 j d k0 af ⟨k,a,A1',ag,S,F,hL,u,T,aa,du,hk,hv,ad,Q⟩
 obtain ⟨⟨rfl,rfl,rfl⟩,rfl⟩:=hL
 refine C0 (fun C=>?_) (fun C=>?_)
 ·have gy:=O6 dy k
  have vy:=C7 b64 ys k
  have V:C4 ((k:Int)+(x2n:Int))=((k+x2n:Nat):Int):=by rw [C1 o o];omega
  refine (sy.mono (B0 u T.le)).load hy o o ?_
  have s:a≠[]:=gz0
  obtain ⟨b,W,w,hc⟩:=Ff T s
  refine ⟨⟨o,o⟩,⟨o,o⟩,?_⟩
  have f:((a.drop k).take (k+x2n-k)).length=xs.length:=gz0
  refine Hy (w.sub (l:=k) (m:=k+x2n) (c:=d) o o o) o (sx.mono u) hx ((du.drop k).take _) dx f gy o ?_
  intro r c h' e q A y w'
  rw [f] at e y
  have w2:=w.whole (l:=k) (m:=k+x2n) o o o w'
  refine ⟨_,rfl,?_⟩
  have ae:(a.take k++r++a.drop (k+x2n)).length=a.length:=by
   grind
  have n:a.take k++r++a.drop (k+x2n)≠[]:=by
   grind
  have O:=w2.priv (m:=j) (c:=d) n o o
  rw [bU o] at O
  have d2:Dig b64 (a.take k++r++a.drop (k+x2n)):=((du.take k).append q).append (du.drop _)
  have H:a=a.take k++((a.drop k).take (k+x2n-k)++a.drop (k+x2n)):=by
   have V:a.drop (k+x2n)=(a.drop k).drop (k+x2n-k):=by simp_all
   rw [V,aT,aT]
  have z:val b64 (a.take k++r++a.drop (k+x2n))+b64^(k+x2n)*c=val b64 a+b64^k*(val b64 xs*ys.getD k 0):=by
   have e2:val b64 a=val b64 (a.take k)+b64^k*(val b64 ((a.drop k).take (k+x2n-k))+b64^xs.length*val b64 (a.drop (k+x2n))):=by
    conv=>lhs;rw [H]
    rw [G7,G7,f,List.length_take,Nat.min_eq_left o]
   rw [e2,bJ,G7,G7,List.length_take,Nat.min_eq_left o,e,hx,Int.pow_add]
   generalize b64^k=P at *
   generalize b64^xs.length=R at *
   grind
  refine B1q O o d2 o A o ?_
  intro TA' tn' tc' ts' h3 g3 l3 X D d3 ac G
  have t:val b64 ts'=val b64 ts+val b64 xs*val b64 (ys.take (k+1)):=by
   grind
  have E:tn'<=N:=by
   rcases G with h4|⟨h4,h5⟩
   ·omega
   ·have h6:=bG (i (k+1)) M
    grind
  have e3:C4 ((k:Int)+1)=((k+1:Nat):Int):=by rw [C1 o o];omega
  rw [e3]
  exact ⟨⟨k+1,ts',TA',tn',tc',g3,rfl,B0 u l3,X,D,d3,o,t,o,E⟩,by simp only [iAt,cT,cU];omega⟩
 grind
def Ia{TA XA YA:Option aG}{ts:List Int}{tn tc xn xc yn yc N:Nat}(p:Pw h g TA tn tc ts)(hn:tn=ts.length)(dt:Dig b64 ts)(ma:Mw g XA xn x)(mb:Mw g YA yn y)(hxc:xn<=xc)(hyc:yn<=yc)(hN:tn<=N)(hxy:xn+yn+1<=N)(hN2:N<=400000000)(hV:val b64 ts+x*y<b64^N)
 (hK:∀ TA' tn' tc' ts' h' g',g.le g'->Pw h' g' TA' tn' tc' ts'->tn'=ts'.length->Dig b64 ts'->val b64 ts'=val b64 ts+x*y->tn'<=N->K (.slice TA' tn' tc') h'):aI prog 283 #[.slice TA tn tc,.slice XA xn xc,.slice YA yn yc] h K:=by
 refine Vb _ _ _ _ _ _ _ _ _ ?_
 refine ⟨fun L E=>E=h/\∃ (A1 B1:Option aG) (d c1 i c2:Nat) (j a:Int),L=[.slice A1 d c1,.slice B1 i c2]/\Mw g A1 d j/\Mw g B1 i a/\d<=c1/\i<=c2/\d+i=xn+yn/\j*a=x*y,C0 (fun _=>⟨rfl,_,_,_,_,_,_,y,x,rfl,mb,ma,hyc,hxc,oo,Int.mul_comm _ _⟩) (fun _=>⟨rfl,_,_,_,_,_,_,x,y,rfl,ma,mb,hxc,hyc,rfl,rfl⟩),?_⟩
 rintro A1 d c1 B1 i c2 E ⟨rfl,A1',B1',ad,ak,ae,ag,j,a,A,T,D,k1,k2,an,z⟩
 obtain ⟨⟨rfl,rfl,rfl⟩,rfl,rfl,rfl⟩:=A
 have aa:=D.nonneg dc
 refine ⟨fun L r=>∃ (A2 B2:Option aG) (e c3 k c4:Nat) (H X:Int) (l:aD),L=[.slice A2 e c3,.slice B2 k c4]/\g.le l/\Pw r l TA tn tc ts/\Mw l A2 e H/\Mw l B2 k X/\e+k<=xn+yn+1/\H*X=x*y,C0 (fun _=>?_) (fun _=>⟨_,_,_,_,_,_,j,a,g,rfl,B7 _,p,T,D,oo,z⟩),?_⟩
 ·refine p.call ?_
  refine I0 T D k1 k2 oo oo ?_
  intro A3 e c3 g3 l3 k3 M3 h3 p3
  refine ⟨_,_,_,rfl,?_⟩
  refine Q7 R8 rfl ?_
  intro b F
  have t:g3 b=none:=by
   cases hx1:g3 b with
   | none=>rfl
   | some o=>rw [p3.le b o hx1] at F;cases F
  refine ⟨_,_,_,rfl,_,_,_,_,_,_,j*a,1,g3.put b (.cells #[U 1] 195),rfl,B0 l3 (Heap.le_put _ t),p3.put F _,M3.mono (Heap.le_put _ t),?_,?_,oo⟩
  ·refine ⟨[1],rfl,SlI.new _ _ _ _ _,?_,?_,?_⟩
   ·intro x hx;grind
   ·unfold Norm;simp
   rfl
  ·have s:=T.lt dc
   have C:=D.lt dc
   have O:j*a<b64^(d+i):=by
    rw [Int.pow_add]
    by_cases h0:a=0
    ·subst h0
     rw [cZ]
     exact Int.mul_pos (bK dc) (bK dc)
    ·have h1:j*a<b64^d*a:=Int.mul_lt_mul_of_pos_right s oo
     have h2:b64^d*a<=b64^d*b64^i:=bG (bY C) (bY (bK dc))
     omega
   have:=M3.len_le dc O
   omega
 rintro A2 e c3 B2 k c4 r ⟨A2',B2',al,ao,aj,af,H,X,l,A,lg,p1,M1,M2,am,u⟩
 obtain ⟨⟨rfl,rfl,rfl⟩,rfl,rfl,rfl⟩:=A
 obtain ⟨xs,M,sx,dx,nx,rfl⟩:=M1
 obtain ⟨ys,V,sy,dy,ny,rfl⟩:=M2
 have e1:C4 ((e:Int)+(k:Int))=((e+k:Nat):Int):=by rw [C1 oo oo];omega
 refine ⟨fun L E=>∃ (m:List Int) (A5:Option aG) (q c5:Nat) (R:aD),L=[.slice A5 q c5]/\l.le R/\Pw E R A5 q c5 m/\q=m.length/\Dig b64 m/\val b64 m=val b64 ts/\q<=N,fun L _=>match L with|[.slice _ n _]=>e+k-n|_=>0,⟨ts,TA,tn,tc,l,rfl,B7 _,p1,hn,dt,rfl,hN⟩,?_⟩
 rintro A5 q c5 ac ⟨m,A5',ai,ah,R,A,c,p5,S,du,w,G⟩
 obtain ⟨rfl,rfl,rfl⟩:=A
 refine C0 (fun h1=>?_) (fun h1=>?_)
 ·refine Dl R8 p5 rfl rfl oo oo ?_
  intro A6 c6 h6 g6 l6 p6
  rw [<- List.map_singleton (f:=Value.int .u64),<- List.map_append] at p6
  refine ⟨⟨m++[0],A6,q+1,c6,g6,rfl,B0 c l6,p6,gz0,du.append (Dig.one dc),by rw [F3,w];simp,oo⟩,?_⟩
  grind
 ·refine B4b (N:=N) p5 S du (sx.mono c) M dx (sy.mono c) V dy oo G hN2 oo ?_
  intro TA' tn' tc' ts' h' g' l' p' Q d' B W
  rw [w,u] at B
  exact hK TA' tn' tc' ts' h' g' (B0 lg (B0 c l')) p' Q d' B W
def SumS(h g:aD)(b:Nat)(e:aK)(N:Nat)(M v:Int):Prop:=∃ (PA NA:Option aG) (pn pc nn nc:Nat) (ps ns:List Int) (g1 g2:aD),Pw g1 g PA pn pc ps/\Pw g2 g1 NA nn nc ns/\g2 b=none/\h=g2.put b (.cells #[.slice PA pn pc,.slice NA nn nc] e)/\pn=ps.length/\nn=ns.length/\Dig b64 ps/\Dig b64 ns/\v=val b64 ps-val b64 ns/\pn<=N/\nn<=N/\val b64 ps+val b64 ns<=M
def SumS.le{b:Nat}{e:aK}{N:Nat}{M v:Int}(S:SumS h g b e N M v):g.le h:=by
 obtain ⟨PA,NA,j,l,nn,k,ps,ns,i,f,a,c,d,rfl,_⟩:=S
 exact B0 a.le (B0 c.le (Heap.le_put _ d))
def SumS.zero{b:Nat}{e:aK}{N:Nat}(hb:g b=none):SumS (g.put b (.cells #[.slice none 0 0,.slice none 0 0] e)) g b e N 0 0:=
 ⟨none,none,0,0,0,0,[],[],g,g,Priv.nil _ _ _ _,Priv.nil _ _ _ _,hb,rfl,rfl,rfl,Dig.nil,Dig.nil,o,o,o,by simp [val]⟩
def Im:prog.cellsOf 217=1/\(prog.info? 217).isSome=true:=by constructor<;>kernel_rfl
def Bg{b:Nat}{e:aK}{N:Nat}{M v:Int}{N1:Nat}(S:SumS h g b e N M v)(i:ZI g s A an ac x)(j:ZI g s' B bn bc y)(hab:an+bn+1<=N)(hN2:N<=400000000)(hM:M+(x*y).natAbs<b64^N1)(hN1:N1<=N)
 (hK:∀ h' g',g.le g'->SumS h' g' b e N (M+(x*y).natAbs) (v+x*y)->K (.tuple #[]) h'):aI prog 255 #[.pointer (some ⟨b,0,none⟩),.agg #[.bool s,.slice A an ac],.agg #[.bool s',.slice B bn bc]] h K:=by
 have aa:=i.zeroIff
 have ad:=j.zeroIff
 have c1:=Eg i.sgn
 have c2:=Eg j.sgn
 refine (fnk func255 (own:=[4,5]) (wr:=[283])) ?_
 have same:x*y=0->K (.tuple #[]) h:=by
  intro C
  refine hK h g (B7 _) ?_
  grind
 refine D5 (fun C=>same gz0) (fun _=>D5 (fun C=>same gz0) (fun _=>?_))
 obtain ⟨PA,NA,pn,pc,nn,nc,ps,ns,g1,g2,D,R,V,rfl,w,m,dp,O,hv,u,z,T⟩:=S
 have ae:=D0 (B:=b64) dc dp
 have af:=D0 (B:=b64) dc O
 have ag:b64^N1<=b64^N:=D8 dc hN1
 have C:(aC ⟨b,0,none⟩ 0)=⟨b,0,none⟩:=Fz b 0 0
 have e1:(aC ⟨b,0,none⟩ 1)=⟨b,1,none⟩:=Fz b 0 1
 refine Br.of (fun hs=>?_) (fun hs=>?_)
 ·have X:x*y= -((x.natAbs:Int)*(y.natAbs:Int)):=by
   grind
  refine ⟨_,rfl,_,_,_,by rw [e1,D7];rfl,?_⟩
  refine FCall.frame (K:=fun r L=>∃ (TA':Option aG) (c d:Nat) (a:List Int) (g':aD),r= .slice TA' c d/\g1.le g'/\Pw L g' TA' c d a/\c=a.length/\Dig b64 a/\val b64 a=val b64 ns+(x.natAbs:Int)*(y.natAbs:Int)/\c<=N) V (Ia (N:=N) R m O (i.mag.mono D.le) (j.mag.mono D.le) i.cap j.cap z hab hN2 o (fun TA' c d a h' g' q t k p l f=>⟨TA',c,d,a,g',rfl,q,t,k,p,l,f⟩)) ?_
  ·rintro r G n ⟨TA',c,d,a,g',rfl,q,t,k,p,l,f⟩
   refine ⟨_,_,_,rfl,_,rfl,?_⟩
   refine Am Im.1 Im.2 rfl rfl (by simp) ?_
   obtain ⟨Q,H,E⟩:=D.after q
   refine hK _ Q H ⟨PA,TA',pn,pc,c,d,ps,a,g',G,E,t,n,rfl,w,k,dp,p,?_,u,f,?_⟩
   ·omega
   omega
 ·have W:x*y=(x.natAbs:Int)*(y.natAbs:Int):=by
   grind
  obtain ⟨g4,p4,F⟩:=R.swap D
  refine ⟨_,rfl,_,_,_,by rw [C,D7];rfl,?_⟩
  refine FCall.frame (K:=fun r L=>∃ (TA':Option aG) (c d:Nat) (a:List Int) (g':aD),r= .slice TA' c d/\g4.le g'/\Pw L g' TA' c d a/\c=a.length/\Dig b64 a/\val b64 a=val b64 ps+(x.natAbs:Int)*(y.natAbs:Int)/\c<=N) V (Ia (N:=N) p4 w dp (i.mag.mono F.le) (j.mag.mono F.le) i.cap j.cap u hab hN2 o (fun TA' c d a h' g' q t k p l f=>⟨TA',c,d,a,g',rfl,q,t,k,p,l,f⟩)) ?_
  ·rintro r G n ⟨TA',c,d,a,g',rfl,q,t,k,p,l,f⟩
   refine ⟨_,_,_,rfl,_,rfl,?_⟩
   refine Am Im.1 Im.2 rfl rfl (by simp) ?_
   obtain ⟨Q,H,E⟩:=F.after q
   obtain ⟨g6,p6,p7⟩:=t.swap E
   refine hK _ Q H ⟨TA',NA,c,d,nn,nc,a,ns,g6,G,p7,p6,n,rfl,k,m,p,O,?_,f,z,?_⟩
   ·omega
   omega
def Qe{b:Nat}{e:aK}{N:Nat}{M v:Int}{N1:Nat}(S:SumS h g b e N M v)(i:ZI g s A an ac x)(j:ZI g s' B bn bc y)(hab:an+bn+1<=N)(hN2:N<=400000000)(hM:M+(x*y).natAbs<b64^N1)(hN1:N1<=N)
 (hK:∀ h' g',g.le g'->SumS h' g' b e N (M+(x*y).natAbs) (v-x*y)->K (.tuple #[]) h'):aI prog 256 #[.pointer (some ⟨b,0,none⟩),.agg #[.bool s,.slice A an ac],.agg #[.bool s',.slice B bn bc]] h K:=by
 refine (fnk func256 (os:=[(1,[0,1,3,2,4])]) (own:=[4,5]) (wr:=[255])) ?_
 refine Bz (i.mono S.le) ?_
 intro f c
 refine ⟨_,_,_,_,rfl,B7 _,?_⟩
 have d:ZI g f A an ac (-x):=⟨i.cap,by rw [Int.natAbs_neg];exact i.mag,c.sgn⟩
 have a:(-x*y).natAbs=(x*y).natAbs:=gz0
 refine Bg (N1:=N1) S d j hab hN2 o hN1 ?_
 grind
def Cl{XA YA:Option aG}{xn xc yn yc:Nat}(ma:Mw h XA xn x)(mb:Mw h YA yn y)(hyx:y<=x)(hl:xn<=1000000000)(hK:∀ A' m c' h',h.le h'->m<=c'->Mw h' A' m (x-y)->K (.slice A' m c') h'):aI prog 284 #[.slice XA xn xc,.slice YA yn yc] h K:=by
 have l:yn<=xn:=mb.len_le dc (Int.lt_of_le_of_lt hyx (ma.lt dc))
 obtain ⟨A,c,p,s,C,rfl⟩:=ma
 obtain ⟨B,a,k,r,u,rfl⟩:=mb
 refine (fnk func284 (wr:=[291])) ?_
 refine J9 R8 o o o ?_
 intro b j
 refine ⟨_,_,_,rfl,?_⟩
 have w:=Win.blk .u64 195 j (bW xn 0)
 refine Dr R8 w (by simp) (p.mono w.le) c gz0 ?_
 intro z f
 refine ⟨_,rfl,?_⟩
 rw [List.drop_of_length_le gz0,List.append_nil] at f
 refine Ef f c k a s r o hyx o ?_
 intro zs t n d e g
 refine ⟨rfl,?_⟩
 refine Bl g.sl d o e (aE _) o ?_
 intro m q i
 exact ⟨_,_,_,rfl,hK _ _ _ _ g.le q i⟩
def Lb{b:Nat}{e:aK}{N:Nat}{M v:Int}(S:SumS h g b e N M v)(hN2:N<=400000000)(hK:∀ s A n c h',h.le h'->ZI h' s A n c v->K (.agg #[.bool s,.slice A n c]) h'):aI prog 257 #[.pointer (some ⟨b,0,none⟩)] h K:=by
 obtain ⟨PA,NA,k,l,nn,q,ps,ns,W,u,w,i,C,rfl,m,p,dp,O,hv,E,T,t⟩:=S
 have z:(aC ⟨b,0,none⟩ 0)=⟨b,0,none⟩:=Fz b 0 0
 have R:(aC ⟨b,0,none⟩ 1)=⟨b,1,none⟩:=Fz b 0 1
 have y:=Heap.le_put (.cells #[.slice PA k l,.slice NA nn q] e) C
 refine (fnk func257 (os:=[(1,[0,1,2,3,5,6,7,8,4,9,10,11])]) (own:=[2])) ?_
 refine ⟨_,rfl,_,_,_,by rw [z,D7];rfl,_,rfl,_,_,_,by rw [R,D7];rfl,?_⟩
 have B:SlI .u64 (u.put b (.cells #[.slice PA k l,.slice NA nn q] e)) PA ps:=SlI.mono y (SlI.mono i.le w.slV)
 have L:SlI .u64 (u.put b (.cells #[.slice PA k l,.slice NA nn q] e)) NA ns:=SlI.mono y i.slV
 refine Bl B dp m rfl w.2.1 o ?_
 intro X F M1
 refine ⟨_,_,_,rfl,B7 _,?_⟩
 refine Bl L O p rfl i.2.1 o ?_
 intro V G M2
 refine ⟨_,_,_,rfl,B7 _,?_⟩
 refine J1 M1 M2 o ⟨_,rfl,?_⟩
 refine C0 (fun r=>?_) (fun r=>?_)
 ·have a:val b64 ns<=val b64 ps:=by unfold Ki at r;omega
  refine Cl M1 M2 a o ?_
  intro A3 D c3 Q H j M3
  obtain ⟨d,f⟩:=cV (show 0<=val b64 ps-val b64 ns from o)
  rw [f] at M3
  refine ⟨_,_,_,rfl,O1 (v:=d) M3 j ?_⟩
  grind
 ·have a:val b64 ps<=val b64 ns:=by
   unfold Ki at r
   omega
  refine Cl M2 M1 a o ?_
  intro A3 D c3 Q H j M3
  obtain ⟨d,f⟩:=cV (show 0<=val b64 ns-val b64 ps from o)
  rw [f] at M3
  refine ⟨_,_,_,rfl,O1 (v:=d) M3 j ?_⟩
  grind
def A8b(gl:Gtz h)(i:ZI h s A an ac x)(j:ZI h s' B bn bc y)(hx:ZB m x)(hy:ZB m y)(hm:m<=6400000000)(hK:∀ A' n' c' h',h.le h'->ZI h' false A' n' c' (Int.lcm x y:Int)->K (.agg #[.bool false,.slice A' n' c']) h'):aI prog 253 #[.agg #[.bool s,.slice A an ac],.agg #[.bool s',.slice B bn bc]] h K:=by
 have c:=i.zeroIff
 have d:=j.zeroIff
 have g:=i.len hx hm
 have a:=j.len hy hm
 refine (fnk func253 (own:=[2,3,4])) ?_
 refine D5 (fun l=>?_) (fun O=>D5 (fun l=>?_) (fun H=>?_))
 ·refine hK none 0 0 h (B7 _) ?_
  rw [c.2 o,Int.lcm_zero_left];exact ZI.zero
 ·refine hK none 0 0 h (B7 _) ?_
  rw [d.2 o,Int.lcm_zero_right];exact ZI.zero
 ·refine Ms gl i.mag j.mag i.cap j.cap g a ?_
  intro A3 p c3 M b r M3
  refine ⟨_,_,_,rfl,b,?_⟩
  rw [Int.gcd_natCast_natCast] at M3
  have E:Nat.gcd x.natAbs y.natAbs≠0:=fun e=>by
   grind
  have w:p<=100000000:=by
   refine cY (M3.len_le dc (j:=bn) ?_) a
   have t:=j.mag.lt dc
   have n:Nat.gcd x.natAbs y.natAbs<=y.natAbs:=Nat.gcd_le_right _ o
   omega
  refine U5 (j.mag.mono b) M3 j.cap r o o o ?_
  intro A4 q c4 A5 D c5 F f C G M4 M5
  refine ⟨_,_,_,_,_,_,rfl,f,?_⟩
  have k:q<=100000000:=by
   refine cY (M4.len_le dc (j:=bn) ?_) a
   have t:=j.mag.lt dc
   have n:=cJ y.natAbs (Nat.gcd x.natAbs y.natAbs)
   omega
  refine I0 (i.mag.mono (B0 b f)) M4 i.cap C o o ?_
  intro A6 L c6 N z u M6
  refine ⟨_,_,_,rfl,hK _ _ _ _ (B0 b (B0 f z)) ⟨u,?_,?_⟩⟩
  ·have:Int.lcm x y=x.natAbs*(y.natAbs/Nat.gcd x.natAbs y.natAbs):=by
    show Nat.lcm x.natAbs y.natAbs=_
    rw [Nat.lcm,Nat.mul_div_assoc _ (Nat.gcd_dvd_right _ _)]
   grind
  rfl
end
abbrev RQr:aD->QV->Rat->Prop:=fun h w q=>RQ h w q
abbrev NQr:aD->QV->Rat->Prop:=fun h w q=>NQ h w q
abbrev ZIr:aD->IV->Int->Prop:=fun h w z=>ZI h w.s w.A w.n w.c z
abbrev SSr:aD->List UInt8->List UInt8->Prop:=fun _ w s=>w=s
def Mon{α β:Type}(R:aD->α->β->Prop):Prop:=∀ (h h':aD) (w:α) (x:β),h.le h'->R h w x->R h' w x
def G2:Mon RQr:=fun _ _ _ _ a i=>⟨i.num.mono a,i.den.mono a⟩
def Q6:Mon NQr:=fun _ _ _ _ a i=>NQ.mono a i
def Dn:Mon ZIr:=fun _ _ _ _ a i=>i.mono a
def E9:Mon SSr:=fun _ _ _ _ _ i=>i
instance:Enc QV:=⟨⟨fun w=>[.bool w.s,.slice w.A w.n w.c,.bool w.s2,.slice w.A2 w.n2 w.c2],4,fun _=>rfl,fun w v hv=>by simp at hv;rcases hv with rfl|rfl|rfl|rfl<;>rfl⟩⟩
section
variable {α β:Type}
def Row(R:aD->α->β->Prop)(g:aD)(xs:List α)(n:Nat)(f:Nat->β):Prop:=∀ i,i<n->∃ w,xs[i]? = some w/\R g w (f i)
variable {R:aD->α->β->Prop} {g g' h h':aD} {xs:List α} {n:Nat} {f:Nat->β}
def Row.mono(m:Mon R)(hl:g.le g')(r:Row R g xs n f):Row R g' xs n f:=fun i b=>by
 obtain ⟨w,e,a⟩:=r i b
 exact ⟨w,e,m _ _ _ _ hl a⟩
def Row.nil:Row R g xs 0 f:=fun i a=>by omega
def Row.set{k:Nat}(r:Row R g xs k f)(hk:k<xs.length){w:α}(hw:R g w (f k)):Row R g (xs.set k w) (k+1) f:=fun i a=>by
 by_cases e:i=k
 ·grind
 ·obtain ⟨u,c,b⟩:=r i o
  grind
def Row.upd(r:Row R g xs n f){k:Nat}(hk:k<xs.length){w:α}{y:β}(hw:R g w y):Row R g (xs.set k w) n (fun i=>if i=k then y else f i):=fun i a=>by
 by_cases e:i=k
 ·grind
 ·obtain ⟨u,c,b⟩:=r i a
  grind
def Row.push(r:Row R g xs xs.length f){w:α}(hw:R g w (f xs.length)):Row R g (xs++[w]) (xs++[w]).length f:=fun i a=>by
 by_cases e:i=xs.length
 ·grind
 ·obtain ⟨u,c,b⟩:=r i gz0
  grind
def Row.congr{f':Nat->β}(r:Row R g xs n f)(h:∀ i,i<n->f i=f' i):Row R g xs n f':=fun i a=>by
 obtain ⟨w,e,b⟩:=r i a
 grind
def Row.get(r:Row R g xs n f){i:Nat}(hi:i<n)(hl:i<xs.length):R g xs[i] (f i):=by
 obtain ⟨w,e,a⟩:=r i hi
 grind
variable [E:Enc α]
def RowV(R:aD->α->β->Prop)(h:aD)(A:Option aG)(n:Nat)(f:Nat->β):Prop:=∃ xs:List α,SlF h A xs/\xs.length=n/\Row R h xs n f
def RowV.mono(m:Mon R){A:Option aG}(hl:h.le h')(r:RowV R h A n f):RowV R h' A n f:=by
 obtain ⟨a,s,e,r⟩:=r
 exact ⟨a,s.mono hl,e,r.mono m hl⟩
def RowV.nil{A:Option aG}:RowV R h A 0 f:=⟨[],SlF.nil,rfl,Row.nil⟩
def RowV.congr{A:Option aG}{f':Nat->β}(r:RowV R h A n f)(e:∀ i,i<n->f i=f' i):RowV R h A n f':=by
 obtain ⟨a,s,l,r⟩:=r
 exact ⟨a,s,l,r.congr e⟩
def RowV.cut{A:Option aG}(r:RowV R h A n f){c l k:Nat}(hlk:l+k<=n)(hc:n<=c):RowV R h (T9 A c l E.default.size) k (fun i=>f (l+i)):=by
 obtain ⟨a,s,e,r⟩:=r
 refine ⟨(a.drop l).take (l+k-l),s.cut (l:=l) (m:=l+k) o o o,gz0,fun i d=>?_⟩
 obtain ⟨w,g,b⟩:=r (l+i) o
 grind
def RowV.at(pos:0<E.default.size){A:Option aG}(r:RowV R h A n f){i:Nat}(hi:i<n):∃ a w,A=some a/\R h w (f i)/\∀ j v,(enc w)[j]? = some v->h.cell? (aC (aC a (i*E.default.size)) j)=some v:=by
 obtain ⟨b,s,e,r⟩:=r
 obtain ⟨a,c,d⟩:=SlF.at pos s (i:=i) o
 exact ⟨a,b[i],c,r.get hi o,d⟩
structure Own (R:aD->α->β->Prop) (h h':aD) (b n:Nat) (f:Nat->β):Prop where
 ex:∃ g o xs,h.le g/\Sep h' g o/\RowX o b xs/\xs.length=n/\Row R g xs n f
def Own.le{b:Nat}(w:Own R h h' b n f):h.le h':=by
 obtain ⟨g,o,a,l,s,_⟩:=w.ex
 exact B0 l s.le
def Own.vis(m:Mon R){b:Nat}(w:Own R h h' b n f):RowV R h' (some ⟨b,0,none⟩) n f:=by
 obtain ⟨g,o,a,l,s,r,e,q⟩:=w.ex
 exact ⟨a,r.rowB.slF s.ole,e,q.mono m s.le⟩
end
section
variable {h:aD} {A:Option aG} {n:Nat}
def RowV.qat{R:aD->QV->Rat->Prop}{f:Nat->Rat}(r:RowV R h A n f){i:Nat}(hi:i<n):∃ a w,A=some a/\R h w (f i)/\h.cell? (aC (aC a (i*4)) 0)=some (.bool w.s)/\h.cell? (aC (aC a (i*4)) 1)=some (.slice w.A w.n w.c)/\h.cell? (aC (aC a (i*4)) 2)=some (.bool w.s2)/\h.cell? (aC (aC a (i*4)) 3)=some (.slice w.A2 w.n2 w.c2):=by
 obtain ⟨a,w,e,d,b⟩:=r.at dc hi
 exact ⟨a,w,e,d,b 0 _ rfl,b 1 _ rfl,b 2 _ rfl,b 3 _ rfl⟩
def RowV.zat{f:Nat->Int}(r:RowV ZIr h A n f){i:Nat}(hi:i<n):∃ a w,A=some a/\ZIr h w (f i)/\h.cell? (aC (aC a (i*2)) 0)=some (.bool w.s)/\h.cell? (aC (aC a (i*2)) 1)=some (.slice w.A w.n w.c):=by
 obtain ⟨a,w,e,d,b⟩:=r.at dc hi
 exact ⟨a,w,e,d,b 0 _ rfl,b 1 _ rfl⟩
def RowV.sat{f:Nat->List UInt8}(r:RowV SSr h A n f){i:Nat}(hi:i<n):∃ a,A=some a/\h.cell? (aC a (i*1))=some (.string (bs (f i))):=by
 obtain ⟨a,w,e,c,d⟩:=r.at dc hi
 have b:w=f i:=c
 subst b
 refine ⟨a,e,?_⟩
 have:=d 0 _ rfl
 assumption
end
section
set_option maxRecDepth 100000
variable {h:aD} {K:VP}
def Iy:bV prog 22 3 (I 0) 1 8:=⟨by kernel_rfl,by kernel_rfl,rfl,dc⟩
def Cd:prog.cellsOf 3=1/\(prog.info? 3).isSome=true:=⟨by kernel_rfl,by kernel_rfl⟩
def Zq:bV prog 232 244 (Qv false none 0 0 false none 0 0) 4 64:=⟨by kernel_rfl,by kernel_rfl,rfl,dc⟩
def Fi:prog.cellsOf 244=4/\(prog.info? 244).isSome=true:=⟨by kernel_rfl,by kernel_rfl⟩
def tZs:bV prog 285 219 (Zv false none 0 0) 2 32:=⟨by kernel_rfl,by kernel_rfl,rfl,dc⟩
def Rk:prog.cellsOf 219=2/\(prog.info? 219).isSome=true:=⟨by kernel_rfl,by kernel_rfl⟩
def B8e:bV prog 26 27 (N0) 1 24:=⟨by kernel_rfl,by kernel_rfl,rfl,dc⟩
def Xh:prog.cellsOf 27=1/\(prog.info? 27).isSome=true:=⟨by kernel_rfl,by kernel_rfl⟩
def C1i:bV prog 319 322 (.agg #[Sl none 0 0,.bool false,Sl none 0 0]) 3 56:=⟨by kernel_rfl,by kernel_rfl,rfl,dc⟩
def B8d:bV prog 39 31 (N0) 1 24:=⟨by kernel_rfl,by kernel_rfl,rfl,dc⟩
def Zo:∀ (args:Array aN) (W:World),(callFunc 251 args).run prog W= .ok (.enter 251 args) W:=call251
def Ug(P:aU)(d:OA)(e i:Nat)(b4:Int)(b5:LP)(j:LN)(c:Int)(b6:Bool)(b7:OA)(b8 b9:Nat)(c0:Bool)(c1:OA)(c2 c3:Nat)(c4:aD)(c5:aD):Prop:=
 ∃ (f:LP) (k:LN),f [I b4] c4/\
 ∀ b a,f [I b] a->∃ o,Ax d o c e <| ∃ c8 l c9,Hd a (o.add (c.toNat*1)) c8 l c9<|Bd (b<(l:Int)) (∃ p,Ax d p c e <| ∃ q r d0,Hd a (p.add (c.toNat*1)) q r d0 <| ∃ s,Ax d s c e <| ∃ t u d1,Hd a (s.add (c.toNat*1)) t u d1 <| ∃ v,Ax t v b u <| ∃ w x y z A B C D,Lq a (v.add (b.toNat*4)) w x y z A B C D <| ∃ E,Ax d E (i:Int) e <| ∃ F G d2,Hd a (E.add (((i:Int)).toNat*1)) F G d2 <| ∃ H,Ax F H b G <| ∃ L M N O Q R S T,Lq a (H.add (b.toNat*4)) L M N O Q R S T<|aI P 65 #[Qv b6 b7 b8 b9 c0 c1 c2 c3,Qv L M N O Q R S T] a (fun c6 g=>∃ V W X a0 a1 a2 a3 a4,c6=Qv V W X a0 a1 a2 a3 a4/\a.le g/\aI P 69 #[Qv w x y z A B C D,Qv V W X a0 a1 a2 a3 a4] g (fun c7 m=>∃ a5 a6 a7 a8 a9 b0 b1 b2,c7=Qv a5 a6 a7 a8 a9 b0 b1 b2/\g.le m/\∃ b3,Ax q b3 b r<|wpH P (aH 37 (Pt (b3.add (b.toNat*4))) (Qv a5 a6 a7 a8 a9 b0 b1 b2)) (fun _ n=>f [I (C4 (b+1))] n/\k [I (C4 (b+1))] n<k [I b] a) m)))
 (b5 [I (C4 (c+1))] a/\j [I (C4 (c+1))] a<j [I c] c5)
def Kk(P:aU)(u:OA)(g:Nat)(T:LP)(v:LN)(w:OA)(f x:Nat)(c:Int)(V:Bool)(W:OA)(X a0:Nat)(a1:Bool)(a2:OA)(a3 a4:Nat)(y:Bool)(z:OA)(A B:Nat)(C:Bool)(D:OA)(E F:Nat)(a5:aD)(a6:aD):Prop:=
 ∃ (d:LP) (e:LN),d [I 0] a6/\
 ∀ a b,d [I a] b->Bd (a<(g:Int)) (∃ H,Ax u H a g <| ∃ L M b1,Hd b (H.add (a.toNat*1)) L M b1 <| ∃ N,Ax L N c M <| ∃ j k l m n o p q,Lq b (N.add (c.toNat*4)) j k l m n o p q<|Br (a==(f:Int)) (d [I (C4 (a+1))] b/\e [I (C4 (a+1))] b<e [I a] b)
 (aI P 19 #[Qv j k l m n o p q] b (fun a7 i=>∃ O,a7=I O/\Br (O==0) (d [I (C4 (a+1))] i/\e [I (C4 (a+1))] i<e [I a] b)
 (Ug P u g f c d e a j k l m n o p q i b))))
 (wpH P (aO 22 1 #[(0,I c)]) (fun a8 a9=>∃ Q R S,a8=Sl Q R S/\wpH P (aM #[22,22] 22 #[Sl w f x,Sl Q R S]) (fun b0 G=>∃ r s t,b0=Sl r s t/\T [.slice r s t,I (C4 (c+1)),.bool y,.slice z A B,.bool C,.slice D E F] G/\v [.slice r s t,I (C4 (c+1)),.bool y,.slice z A B,.bool C,.slice D E F] G<v [.slice w f x,I c,.bool V,.slice W X a0,.bool a1,.slice a2 a3 a4] a5) a9) b)
def Uh(P:aU)(d:OA)(e:Nat)(N:LP)(O:LN)(Q:OA)(c R:Nat)(S:Int)(T:Bool)(V:OA)(W X:Nat)(a0:Bool)(a1:OA)(a2 a3:Nat)(a4:Bool)(a5:OA)(a6 a7:Nat)(a8:Bool)(a9:OA)(b0 b1:Nat)(b2:Bool)(b3:OA)(b4 b5:Nat)(b6:Bool)(b7:OA)(b8 b9:Nat)(c0:aD)(c1:aD):Prop:=
 ∃ (f:LP) (g:LN),f [I 0] c0/\
 ∀ a b,f [I a] b->∃ l,Ax d l (c:Int) e <| ∃ c3 i c4,Hd b (l.add (((c:Int)).toNat*1)) c3 i c4<|Bd (a<(i:Int)) (∃ m,Ax d m (c:Int) e <| ∃ n o c5,Hd b (m.add (((c:Int)).toNat*1)) n o c5 <| ∃ p,Ax d p (c:Int) e <| ∃ q r c6,Hd b (p.add (((c:Int)).toNat*1)) q r c6 <| ∃ s,Ax q s a r <| ∃ t u v w x y z A,Lq b (s.add (a.toNat*4)) t u v w x y z A<|aI P 127 #[Qv t u v w x y z A,Qv a4 a5 a6 a7 a8 a9 b0 b1] b (fun c2 j=>∃ B C D E F G H L,c2=Qv B C D E F G H L/\b.le j/\∃ M,Ax n M a o<|wpH P (aH 37 (Pt (M.add (a.toNat*4))) (Qv B C D E F G H L)) (fun _ k=>f [I (C4 (a+1))] k/\g [I (C4 (a+1))] k<g [I a] b) j))
 (Kk P d e N O Q c R S T V W X a0 a1 a2 a3 b2 b3 b4 b5 b6 b7 b8 b9 c1 b)
def Ui(P:aU)(m:OA)(n:Nat)(A:LP)(B:LN)(C:OA)(a D:Nat)(b:Int)(E:Bool)(F:OA)(G H:Nat)(L:Bool)(M:OA)(N O:Nat)(Q:Bool)(R:OA)(S T:Nat)(V:Bool)(W:OA)(X a0:Nat)(a1:aD)(c:aD):Prop:=
 ∃ o,Ax m o (a:Int) n <| ∃ p q a4,Hd c (o.add (((a:Int)).toNat*1)) p q a4 <| ∃ r,Ax p r b q <| ∃ d e f g i j k l,Lq c (r.add (b.toNat*4)) d e f g i j k l<|aI P 65 #[Qv Q R S T V W X a0,Qv d e f g i j k l] c (fun a2 a3=>∃ s t u v w x y z,a2=Qv s t u v w x y z/\Uh P m n A B C a D b E F G H L M N O d e f g i j k l s t u v w x y z a3 a1)
def Uj(P:aU)(e:OA)(b:Nat)(t:LP)(r:LN)(f:OA)(a g:Nat)(i:Int)(j:Bool)(k:OA)(l m:Nat)(n:Bool)(o:OA)(p q:Nat)(c:Int)(u:aD)(d:aD):Prop:=
 Br (c==(b:Int)) (t [.slice f a g,I (C4 (i+1)),.bool false,N0,.bool false,N0] d/\r [.slice f a g,I (C4 (i+1)),.bool false,N0,.bool false,N0] d<r [.slice f a g,I i,.bool j,.slice k l m,.bool n,.slice o p q] u)
 (∃ (s:LP),(Br (c != (a:Int)) (∃ v,Ax e v (a:Int) b <| ∃ w x y,Hd d (v.add (((a:Int)).toNat*1)) w x y <| ∃ z,Ax e z c b <| ∃ A B C,Hd d (z.add (c.toNat*1)) A B C <| ∃ D,Ax e D c b<|wpH P (aH 27 (Pt (D.add (c.toNat*1))) (.slice w x y)) (fun _ a3=>∃ E,Ax e E (a:Int) b<|wpH P (aH 27 (Pt (E.add (((a:Int)).toNat*1))) (.slice A B C)) (fun _ a4=>aI P 40 #[Qv j k l m n o p q] a4 (fun a5 a6=>∃ F G H L M N O Q,a5=Qv F G H L M N O Q/\s [.bool F,.slice G H L,.bool M,.slice N O Q] a6)) a3) d)
 (s [.bool j,.slice k l m,.bool n,.slice o p q] d))/\
 ∀ R S T V W X a0 a1 a2,s [.bool R,.slice S T V,.bool W,.slice X a0 a1] a2->Ui P e b t r f a g i j k l m n o p q R S T V W X a0 a1 u a2)
def B4j(P:aU)(a3:OA)(a4 a5:Nat)(t:Int)(h:aD)(K:VP):Prop:=
 aI P 126 #[Sl a3 a4 a5] h (fun a7 a8=>∃ d b j,a7=Sl d b j/\aI P 38 #[I 1] a8 (fun a9 b0=>∃ z A B C D E F G,a9=Qv z A B C D E F G/\∃ (u:LP) (a6:LN),u [N0,I 0,.bool z,.slice A B C,.bool D,.slice E F G] b0/\
 ∀ f a g k l m n o p q r s e,u [.slice f a g,I k,.bool l,.slice m n o,.bool p,.slice q r s] e->Bd (k<t) (Bd ((a:Int)<(b:Int)) (∃ (v:LP),(∃ (w:LP) (y:LN),w [I (a:Int)] e/\
 ∀ c i,w [I c] i->Bd (c<(b:Int)) (∃ H,Ax d H c b <| ∃ L M b2,Hd i (H.add (c.toNat*1)) L M b2 <| ∃ N,Ax L N k M <| ∃ O Q R S T V W X,Lq i (N.add (k.toNat*4)) O Q R S T V W X<|aI P 19 #[Qv O Q R S T V W X] i (fun b1 x=>∃ a0,b1=I a0/\Br (a0==0) (w [I (C4 (c+1))] x/\y [I (C4 (c+1))] x<y [I c] i)
 (v [I c] x)))
 (v [I c] i))/\
 ∀ a1 a2,v [I a1] a2->Uj P d b u a6 f a g k l m n o p q r s a1 e a2)
 (Bd ((a:Int)<t) (K (.tuple #[Sl d b j,Sl f a g,Qv false none 0 0 false none 0 0]) e)
 (K (.tuple #[Sl d b j,Sl f a g,Qv l m n o p q r s]) e)))
 (Bd ((a:Int)<t) (K (.tuple #[Sl d b j,Sl f a g,Qv false none 0 0 false none 0 0]) e)
 (K (.tuple #[Sl d b j,Sl f a g,Qv l m n o p q r s]) e))))
def A4q a b c d(hvc:B4j prog a b c d h K):aI prog 75 #[Sl a b c,I d] h K:=
 fnq func75 ⟨[(5,⟨[8,10],[(9,4)],[N0,I 0,.bool false,N0,.bool false,N0],⟨([8]++Lrg 10 8++Lrg 21 148),[9,13,16]⟩⟩),(9,⟨[12],[],[I 0],⟨([12]++Lrg 36 17),[]⟩⟩),(19,⟨[14],[],[I 0],⟨([14]++Lrg 87 24),[]⟩⟩),(23,⟨[15],[],[I 0],⟨([15,16,17]++Lrg 111 54),[16]⟩⟩),(28,⟨[17],[],[I 0],⟨([17]++Lrg 133 32),[]⟩⟩)],[(11,⟨[12],[],[I 0],⟨([12]++Lrg 36 17),[]⟩⟩),(16,⟨[],[(9,4)],[.bool false,N0,.bool false,N0],⟨(Lrg 58 19),[9]⟩⟩)],[],[],[]⟩ [6,9,13,16] [] hvc
end
end Go.Proofs.YtkfhdoblhajcbaaGreatDoor
namespace Go.Proofs.YtkfhdoblhajcbaaGreatDoor
set_option maxRecDepth 20000
def sm:Nat->(Nat->Rat)->Rat
 | 0,_=>0
 | n+1,f=>sm n f+f n
def C5{n:Nat}{f g:Nat->Rat}(h:∀ i,i<n->f i=g i):sm n f=sm n g:=by
 induction n with
 | zero=>rfl
 | succ n ih=>rw [sm,sm,ih (fun i a=>h i o),h n o]
def Q5{n:Nat}{f:Nat->Rat}(h:∀ i,i<n->f i=0):sm n f=0:=by
 induction n with
 | zero=>rfl
 | succ n ih=>rw [sm,ih (fun i a=>h i o),h n o];exact aV 0
def Ce(n:Nat)(f g:Nat->Rat):sm n (fun i=>f i+g i)=sm n f+sm n g:=by
 induction n with
 | zero=>simp only [sm];exact (aV 0).symm
 | succ n ih=>simp only [sm];rw [ih];grind
def J7(n:Nat)(a:Rat)(f:Nat->Rat):sm n (fun i=>a*f i)=a*sm n f:=by
 induction n with
 | zero=>simp only [sm];grind
 | succ n ih=>simp only [sm];rw [ih];grind
def Jd(n:Nat)(f:Nat->Rat):sm n (fun i=> - f i)= - sm n f:=by
 induction n with
 | zero=>simp only [sm];grind
 | succ n ih=>simp only [sm];rw [ih];grind
def T8(n m:Nat)(f:Nat->Nat->Rat):sm n (fun i=>sm m (f i))=sm m (fun j=>sm n (fun i=>f i j)):=by
 induction n with
 | zero=>rw [sm];exact (Q5 fun _ _=>rfl).symm
 | succ n ih=>simp only [sm];rw [ih,<- Ce]
def V4{n k:Nat}(hk:k<n){f:Nat->Rat}(h:∀ i,i<n->i≠k->f i=0):sm n f=f k:=by
 induction n with
 | zero=>omega
 | succ n ih=>
  rw [sm]
  by_cases e:k=n
  ·subst e;rw [Q5 fun i b=>h i o o];exact cX _
  ·rw [ih o fun i b a=>h i o a,h n o o];exact aV _
def rhx(l i:Nat):Nat:=if i<l then i else i+1
def B8o(l i:Nat):rhx l i≠l:=by unfold rhx;split<;>omega
def A56{l i k:Nat}(hi:i<k):rhx l i<k+1:=by unfold rhx;split<;>omega
def B8i{k a:Nat}(ha:a<=k)(t:Nat->Rat):sm k (fun i=>t (rhx a i))=sm (k+1) (fun b=>if b=a then 0 else t b):=by
 induction k generalizing a with
 | zero=>
  show (0:Rat)=0+(if 0=a then 0 else t 0)
  rw [iP o];exact (aV 0).symm
 | succ k ih=>
  show sm k (fun i=>t (rhx a i))+t (rhx a k)=sm (k+1) (fun b=>if b=a then 0 else t b)+(if k+1=a then 0 else t (k+1))
  by_cases e:a=k+1
  ·rw [iP e.symm,aV]
   show sm k (fun i=>t (rhx a i))+t (rhx a k)=sm k (fun b=>if b=a then 0 else t b)+(if k=a then 0 else t k)
   rw [iN o]
   congr 1
   ·exact C5 fun i c=>by rw [rhx,iP o,iN o]
   ·rw [rhx,iP o]
  ·rw [ih o,iN (fun x=>e x.symm)]
   congr 1
   rw [rhx,iN o]
def sg(n:Nat):Rat:=if n%2=0 then 1 else -1
def dt:Nat->(Nat->Nat->Rat)->Rat
 | 0,_=>1
 | k+1,X=>sm (k+1) fun l=>sg (k+l)*X k l*dt k (fun c r=>X c (rhx l r))
def Y5{k:Nat}: ∀ {X Y:Nat->Nat->Rat},(∀ c r,c<k->r<k->X c r=Y c r)->dt k X=dt k Y:=by
 induction k with
 | zero=>intros;rfl
 | succ k ih=>
  intro X Y h
  rw [dt,dt]
  refine C5 fun l a=>?_
  rw [h k l o a,ih fun c r d b=>h c (rhx l r) o (A56 b)]
def rc(X:Nat->Nat->Rat)(m:Nat)(y:Nat->Rat):Nat->Nat->Rat:=fun c r=>if c=m then y r else X c r
def Fo(X:Nat->Nat->Rat)(m:Nat)(y:Nat->Rat)(l:Nat):(fun c r=>rc X m y c (rhx l r))=rc (fun c r=>X c (rhx l r)) m (fun r=>y (rhx l r)):=by
 funext c r;unfold rc;split<;>rfl
def A21{k:Nat}: ∀ (X:Nat->Nat->Rat) {m:Nat} (_:m<k) (y z:Nat->Rat),dt k (rc X m fun r=>y r+z r)=dt k (rc X m y)+dt k (rc X m z):=by
 induction k with
 | zero=>intros;omega
 | succ k ih=>
  intro X m a y z
  rw [dt,dt,dt,<- Ce]
  refine C5 fun l b=>?_
  by_cases e:m=k
  ·subst e
   have:∀ u:Nat->Rat,dt m (fun c r=>rc X m u c (rhx l r))=dt m (fun c r=>X c (rhx l r)):=fun u=>Y5 fun c r d _=>by rw [rc,iN o]
   rw [this,this,this]
   simp only [rc,if_true]
   grind
  ·rw [Fo,Fo,Fo,ih _ o]
   simp only [rc,iN (fun x:k=m=>e x.symm)]
   grind
def B13{k:Nat}: ∀ (X:Nat->Nat->Rat) {m:Nat} (_:m<k) (a:Rat) (y:Nat->Rat),dt k (rc X m fun r=>a*y r)=a*dt k (rc X m y):=by
 induction k with
 | zero=>intros;omega
 | succ k ih=>
  intro X m b a y
  rw [dt,dt,<- J7]
  refine C5 fun l d=>?_
  by_cases e:m=k
  ·subst e
   have:∀ u:Nat->Rat,dt m (fun c r=>rc X m u c (rhx l r))=dt m (fun c r=>X c (rhx l r)):=fun u=>Y5 fun c r f _=>by rw [rc,iN o]
   rw [this,this]
   simp only [rc,if_true]
   grind
  ·rw [Fo,Fo,ih _ o]
   simp only [rc,iN (fun x:k=m=>e x.symm)]
   grind
def B7c{k:Nat}(X:Nat->Nat->Rat){m:Nat}(hm:m<k):dt k (rc X m fun _=>0)=0:=by
 have:=B13 X hm 0 (fun _=>0)
 rw [cW] at this
 simpa only [cW] using this
def B5d{k:Nat}(X:Nat->Nat->Rat){m:Nat}(hm:m<k)(a:Nat->Rat)(Y:Nat->Nat->Rat):∀ n,dt k (rc X m fun r=>sm n fun t=>a t*Y t r)=sm n fun t=>a t*dt k (rc X m (Y t)):=by
 intro n
 induction n with
 | zero=>exact B7c X hm
 | succ n ih=>
  simp only [sm]
  rw [A21 X hm,ih,B13 X hm]
def A3k(X:Nat->Nat->Rat)(m:Nat):rc X m (X m)=X:=by
 funext c r;unfold rc;split
 ·rename_i e;rw [e]
 ·rfl
def A60{k:Nat}(X:Nat->Nat->Rat)(h:∀ r,r<k+2->X k r=X (k+1) r):dt (k+2) X=0:=by
 let mn:Nat->Nat->Rat:=fun a b=>dt k (fun c r=>X c (if a<b then rhx a (rhx (b-1) r) else rhx b (rhx (a-1) r)))
 let G:Nat->Nat->Rat:=fun a b=>if a=b then 0 else if b<a then sg (a+b)*X (k+1) a*X (k+1) b*mn a b else-(sg (a+b)*X (k+1) a*X (k+1) b*mn a b)
 have m:∀ a b,mn a b=mn b a:=by
  intro a b
  show dt k _=dt k _
  refine Y5 fun c r _ _=>?_
  by_cases d:a<b
  ·rw [iP d,iN o]
  ·by_cases n:b<a
   ·rw [iN d,iP n]
   ·have:a=b:=o
    subst this;rfl
 have t:∀ a b,G b a= - G a b:=by
  intro a b
  show (if b=a then 0 else if a<b then _ else _)= - (if a=b then 0 else if b<a then _ else _)
  by_cases e:a=b
  ·rw [iP e,iP e.symm];grind
  ·rw [iN e,iN (fun x=>e x.symm)]
   have z:=m a b
   by_cases d:a<b
   ·rw [iP d,iN o,Nat.add_comm b a];grind
   ·rw [iN d,iP o,Nat.add_comm b a];grind
 have f:dt (k+2) X=sm (k+2) fun a=>sm (k+2) fun b=>G a b*sg (k+1+k):=by
  rw [dt]
  refine C5 fun a u=>?_
  have p:(fun b=>G a b*sg (k+1+k))=(fun b=>if b=a then 0 else (fun b=>G a b*sg (k+1+k)) b):=by
   funext b
   by_cases e:b=a
   ·subst e;rw [iP rfl];show (if b=b then 0 else _)*_=_;rw [iP rfl];grind
   ·rw [iN e]
  rw [p,<- B8i o (fun b=>G a b*sg (k+1+k)),dt,<- J7]
  refine C5 fun i s=>?_
  have l:X k (rhx a i)=X (k+1) (rhx a i):=h _ (A56 s)
  have j:dt k (fun c r=>X c (rhx a (rhx i r)))=mn a (rhx a i):=by
   show _=dt k _
   refine Y5 fun c r _ _=>?_
   by_cases d:i<a
   ·have g:rhx a i=i:=by rw [rhx,iP d]
    rw [g,iN o]
    congr 1
    simp only [rhx]
    repeat' split
    all_goals omega
   ·have g:rhx a i=i+1:=by rw [rhx,iN d]
    rw [g,iP o,Nat.add_sub_cancel]
  rw [l,j]
  show _=(if a=rhx a i then 0 else if rhx a i<a then _ else _)*_
  rw [iN (fun e=>B8o a i e.symm)]
  have w:∀ x y:Nat,x%2=y%2->sg x=sg y:=fun x y e=>by unfold sg;rw [e]
  by_cases d:i<a
  ·have g:rhx a i=i:=by rw [rhx,iP d]
   rw [g,iP d]
   have q:sg (k+1+a)*sg (k+i)=sg (a+i)*sg (k+1+k):=by
    unfold sg
    repeat' split
    all_goals first|omega|grind
   grind
  ·have g:rhx a i=i+1:=by rw [rhx,iN d]
   rw [g,iN o]
   have q:sg (k+1+a)*sg (k+i)= - sg (a+(i+1))*sg (k+1+k):=by
    unfold sg
    repeat' split
    all_goals first|omega|grind
   grind
 have n:dt (k+2) X= - dt (k+2) X:=by
  have:dt (k+2) X=sm (k+2) fun a=>sm (k+2) fun b=>G b a*sg (k+1+k):=by
   rw [f];exact T8 _ _ _
  refine this.trans ?_
  rw [f,<- Jd]
  refine C5 fun a _=>?_
  rw [<- Jd]
  exact C5 fun b _=>by rw [t];grind
 grind
def B7e:∀ {k:Nat} (X:Nat->Nat->Rat) {p q:Nat} (_:p<q) (_:q<k) (_:∀ r,r<k->X p r=X q r),dt k X=0:=by
 intro k
 induction k with
 | zero=>intros;omega
 | succ k ih=>
  intro X p q f B h
  by_cases e:q=k
  ·subst e
   by_cases A:p+1=q
   ·subst A
    exact A60 X h
   ·
    obtain ⟨k',rfl⟩:∃ k',q=k'+1:=⟨q-1,o⟩
    have j:p<k':=o
    have swap:∀ (Z:Nat->Nat->Rat),dt (k'+1) (rc (rc Z p (Z k')) k' (Z p))= - dt (k'+1) Z:=by
     intro Z
     have i:∀ y:Nat->Rat,dt (k'+1) (rc (rc Z p y) k' y)=0:=fun y=>ih _ j o fun r _=>by
      unfold rc;rw [iN o,iP rfl,iP rfl]
     have comm:∀ y z:Nat->Rat,rc (rc Z p y) k' z=rc (rc Z k' z) p y:=by
      intro y z;funext c r;unfold rc
      by_cases b:c=k'
      ·by_cases a:c=p
       ·omega
       ·rw [iP b,iN a,iP b]
      ·by_cases a:c=p
       ·rw [iN b,iP a,iP a]
       ·rw [iN b,iN a,iN a,iN b]
     have d:=i (fun r=>Z p r+Z k' r)
     rw [A21 _ o] at d
     rw [comm _ (Z p),comm _ (Z k'),A21 _ o,A21 _ o] at d
     rw [<- comm,<- comm,<- comm,<- comm] at d
     rw [i (Z p),i (Z k')] at d
     have s:rc (rc Z p (Z p)) k' (Z k')=Z:=by rw [A3k,A3k]
     rw [s] at d
     grind
    have w:dt (k'+1+1) X= - dt (k'+1+1) (rc (rc X p (X k')) k' (X p)):=by
     rw [dt,dt,<- Jd]
     refine C5 fun l _=>?_
     have t:rc (rc X p (X k')) k' (X p) (k'+1) l=X (k'+1) l:=by unfold rc;rw [iN o,iN o]
     have m:(fun c r=>rc (rc X p (X k')) k' (X p) c (rhx l r))=rc (rc (fun c r=>X c (rhx l r)) p (fun r=>X k' (rhx l r))) k' (fun r=>X p (rhx l r)):=by
      rw [Fo,Fo]
     have:=swap (fun c r=>X c (rhx l r))
     rw [t,m,this]
     grind
    rw [w,A60 _ fun r g=>?_]
    ·grind
    ·have n:rc (rc X p (X k')) k' (X p) k' r=X p r:=by unfold rc;rw [iP rfl]
     have u:rc (rc X p (X k')) k' (X p) (k'+1) r=X (k'+1) r:=by unfold rc;rw [iN o,iN o]
     rw [n,u];exact h r g
  ·rw [dt]
   refine Q5 fun l _=>?_
   rw [ih _ f o fun r g=>h (rhx l r) (A56 g)]
   grind
def B7d{k:Nat}(X:Nat->Nat->Rat)(h:∀ r,r<k->X k r=0):dt (k+1) X=X k k*dt k X:=by
 rw [dt,V4 (k:=k) o fun i e b=>by rw [h i o];grind]
 have:dt k (fun c r=>X c (rhx k r))=dt k X:=Y5 fun c r _ d=>by rw [rhx,iP d]
 have a:sg (k+k)=1:=by unfold sg;rw [iP o]
 rw [this,a,Rat.one_mul]
def Wh(q:Rat):Prop:=∃ z:Int,q=(z:Rat)
def Wh.add{p q:Rat}(hp:Wh p)(hq:Wh q):Wh (p+q):=by
 obtain ⟨a,rfl⟩:=hp;obtain ⟨b,rfl⟩:=hq
 exact ⟨a+b,by rw [Rat.intCast_add]⟩
def Wh.mul{p q:Rat}(hp:Wh p)(hq:Wh q):Wh (p*q):=by
 obtain ⟨a,rfl⟩:=hp;obtain ⟨b,rfl⟩:=hq
 exact ⟨a*b,by rw [aR]⟩
def Wh.sg(n:Nat):Wh (sg n):=by
 unfold Go.Proofs.YtkfhdoblhajcbaaGreatDoor.sg
 split
 ·exact ⟨1,rfl⟩
 ·exact ⟨-1,by decide +kernel⟩
def Wh.sm{n:Nat}{f:Nat->Rat}(h:∀ i,i<n->Wh (f i)):Wh (sm n f):=by
 induction n with
 | zero=>exact ⟨0,rfl⟩
 | succ n ih=>exact (ih fun i a=>h i o).add (h n o)
def C0t{k:Nat}: ∀ {X:Nat->Nat->Rat},(∀ c r,c<k->r<k->Wh (X c r))->Wh (dt k X):=by
 induction k with
 | zero=>intro X _;exact ⟨1,rfl⟩
 | succ k ih=>
  intro X h
  rw [dt]
  refine Wh.sm fun l a=>?_
  exact ((Wh.sg _).mul (h k l o a)).mul (ih fun c r d b=>h c _ o (A56 b))
structure Elim (n w:Nat) (B R:Nat->Nat->Rat) (cs:Nat->Nat) (k:Nat):Prop where
 kn:k<=n
 cw:∀ m,m<k->cs m<w
 piv:∀ l m,l<k->m<k->R l (cs m)=if l=m then 1 else 0
 low:∀ i m,i<n->k<=i->m<k->R i (cs m)=0
 top:∀ l j,l<k->j<w->B l j=sm k fun m=>B l (cs m)*R m j
 bot:∀ i j,i<n->k<=i->j<w->B i j=R i j+sm k fun m=>B i (cs m)*R m j
def dp(B:Nat->Nat->Rat)(cs:Nat->Nat)(k:Nat):Rat:=dt k fun c r=>B r (cs c)
section
variable {n w:Nat} {B R:Nat->Nat->Rat} {cs:Nat->Nat} {k:Nat}
def Elim.below(E:Elim n w B R cs k){i j:Nat}(hi:i<n)(hk:k<=i)(hj:j<w):dp B cs k*R i j=dt (k+1) fun c r=>B (if r<k then r else i) (if c<k then cs c else j):=by
 have d:(fun c r=>B (if r<k then r else i) (if c<k then cs c else j))=rc (fun c r=>B (if r<k then r else i) (cs c)) k (fun r=>B (if r<k then r else i) j)\/True:=.inr trivial
 clear d
 let X:Nat->Nat->Rat:=fun c r=>B (if r<k then r else i) (cs c)
 have e:dt (k+1) (fun c r=>B (if r<k then r else i) (if c<k then cs c else j))=dt (k+1) (rc X k fun r=>(sm k fun t=>R t j*X t r)+(if r<k then 0 else R i j)):=by
  refine Y5 fun c r g b=>?_
  unfold rc
  by_cases h:c=k
  ·subst h
   rw [iN (bL c),iP rfl]
   show _=(sm c fun t=>R t j*X t r)+(if r<c then 0 else R i j)
   by_cases a:r<c
   ·rw [iP a,iP a,aV,E.top r j a hj]
    refine C5 fun m _=>?_
    show _=_*B (if r<c then r else i) (cs m)
    rw [iP a,bH]
   ·rw [iN a,iN a,E.bot i j hi hk hj,Rat.add_comm]
    congr 1
    refine C5 fun m _=>?_
    show _=_*B (if r<c then r else i) (cs m)
    rw [iN a,bH]
  ·rw [iN h,iP (show c<k from o)]
 rw [e,A21 _ o,B5d X o (fun t=>R t j) X]
 rw [Q5 fun t f=>by
  rw [B7e (rc X k (X t)) (p:=t) (q:=k) f o fun r _=>by unfold rc;rw [iN o,iP rfl]]
  exact aY _]
 rw [B7d _ fun r b=>by unfold rc;rw [iP rfl];show (if r<k then 0 else R i j)=0;rw [iP b]]
 have l:dt k (rc X k fun r=>if r<k then 0 else R i j)=dp B cs k:=by
  refine Y5 fun c r g b=>?_
  unfold rc
  rw [iN o]
  show B (if r<k then r else i) (cs c)=_
  rw [iP b]
 rw [l]
 unfold rc
 rw [iP rfl]
 show _=0+(if k<k then 0 else R i j)*_
 rw [iN (bL k)]
 grind
def Elim.above(E:Elim n w B R cs k){i j:Nat}(hi:i<k)(hj:j<w):dp B cs k*R i j=dt k (rc (fun c r=>B r (cs c)) i fun r=>B r j):=by
 let X:Nat->Nat->Rat:=fun c r=>B r (cs c)
 have d:dt k (rc X i fun r=>B r j)=dt k (rc X i fun r=>sm k fun t=>R t j*X t r):=by
  refine Y5 fun c r f b=>?_
  unfold rc
  split
  ·show B r j=sm k fun t=>R t j*X t r
   rw [E.top r j b hj]
   exact C5 fun m _=>bH _ _
  ·rfl
 show _=dt k (rc X i fun r=>B r j)
 rw [d,B5d X hi (fun t=>R t j) X,V4 (k:=i) hi fun t e a=>?_]
 ·rw [A3k,bH];rfl
 ·rcases Nat.lt_or_ge t i with h|h
  ·rw [B7e (rc X i (X t)) (p:=t) (q:=i) h hi fun r _=>by unfold rc;rw [iN o,iP rfl]]
   exact aY _
  ·rw [B7e (rc X i (X t)) (p:=i) (q:=t) o e fun r _=>by unfold rc;rw [iP rfl,iN o]]
   exact aY _
def Elim.whole(E:Elim n w B R cs k)(hB:∀ i j,i<n->j<w->Wh (B i j)){i j:Nat}(hi:i<n)(hj:j<w):Wh (dp B cs k*R i j):=by
 by_cases h:i<k
 ·rw [E.above h hj]
  refine C0t fun c r a b=>?_
  have:=E.kn
  unfold rc
  split
  ·exact hB r j o hj
  ·exact hB r _ o (E.cw c a)
 ·rw [E.below hi o hj]
  refine C0t fun c r a b=>?_
  refine hB _ _ ?_ ?_
  ·split<;>omega
  ·split
   ·exact E.cw c (by assumption)
   ·exact hj
def Elim.next(E:Elim n w B R cs k){j:Nat}(hk:k<n)(hj:j<w)(hc:cs k=j):dp B cs (k+1)=dp B cs k*R k j:=by
 rw [E.below hk (aE _) hj]
 refine Y5 fun c r b e=>?_
 have d:(if r<k then r else k)=r:=by split<;>omega
 have a:(if c<k then cs c else j)=cs c:=by
  split
  ·rfl
  ·have:c=k:=o
   rw [this,hc]
 rw [d,a]
def Bp(R:Nat->Nat->Rat)(k j:Nat):Nat->Nat->Rat:=fun a b=>if a=k then R k b/R k j else R a b-R a j*(R k b/R k j)
def Elim.step(E:Elim n w B R cs k){j:Nat}(hk:k<n)(hj:j<w)(hc:cs k=j)(hne:R k j≠0):Elim n w B (Bp R k j) cs (k+1):=by
 have d:∀ m,m<k->R k (cs m)=0:=fun m p=>E.low k m hk (aE _) p
 have f:R k j/R k j=1:=gz0
 refine ⟨o,fun m p=>?_,fun l m C p=>?_,fun i m q u p=>?_,fun l b C r=>?_,fun i b q u r=>?_⟩
 ·by_cases e:m=k
  ·rw [e,hc];exact hj
  ·exact E.cw m o
 ·unfold Bp
  by_cases s:m=k
  ·subst s
   rw [hc]
   by_cases c:l=m
   ·rw [iP c,iP c];exact f
   ·rw [iN c,iN c,f];grind
  ·have a:m<k:=o
   rw [d m a]
   by_cases c:l=k
   ·subst c
    rw [iP rfl,iN o];grind
   ·rw [iN c,E.piv l m o a]
    grind
 ·unfold Bp
  rw [iN o]
  by_cases s:m=k
  ·subst s
   rw [hc,f];grind
  ·have a:m<k:=o
   rw [d m a,E.low i m q o a]
   grind
 ·rw [sm]
  have t:(Bp R k j) k b=R k b/R k j:=by unfold Bp;rw [iP rfl]
  have y:sm k (fun m=>B l (cs m)*Bp R k j m b)=sm k (fun m=>B l (cs m)*R m b)-sm k (fun m=>B l (cs m)*R m j)*(R k b/R k j):=by
   have:(fun m=>B l (cs m)*Bp R k j m b)=fun m=>if m=k then B l (cs k)*(R k b/R k j) else B l (cs m)*R m b+(-(R k b/R k j))*(B l (cs m)*R m j):=by
    funext m
    unfold Bp
    by_cases e:m=k
    ·rw [iP e,iP e,e]
    ·rw [iN e,iN e];grind
   rw [this,C5 (g:=fun m=>B l (cs m)*R m b+(-(R k b/R k j))*(B l (cs m)*R m j)) fun m p=>by rw [iN o]]
   rw [Ce,J7];grind
  rw [t,y,hc]
  by_cases c:l=k
  ·subst c
   have t1:=E.bot l b hk (aE _) r
   have z:=E.bot l j hk (aE _) hj
   grind
  ·have t1:=E.top l b o r
   have z:=E.top l j o hj
   grind
 ·rw [sm]
  have t:(Bp R k j) k b=R k b/R k j:=by unfold Bp;rw [iP rfl]
  have y:sm k (fun m=>B i (cs m)*Bp R k j m b)=sm k (fun m=>B i (cs m)*R m b)-sm k (fun m=>B i (cs m)*R m j)*(R k b/R k j):=by
   have:(fun m=>B i (cs m)*Bp R k j m b)=fun m=>if m=k then B i (cs k)*(R k b/R k j) else B i (cs m)*R m b+(-(R k b/R k j))*(B i (cs m)*R m j):=by
    funext m
    unfold Bp
    by_cases e:m=k
    ·rw [iP e,iP e,e]
    ·rw [iN e,iN e];grind
   rw [this,C5 (g:=fun m=>B i (cs m)*R m b+(-(R k b/R k j))*(B i (cs m)*R m j)) fun m p=>by rw [iN o]]
   rw [Ce,J7];grind
  have A:Bp R k j i b=R i b-R i j*(R k b/R k j):=by unfold Bp;rw [iN o]
  have t1:=E.bot i b q o r
  have z:=E.bot i j q o hj
  rw [t,y,A,hc]
  grind
def xch(k l:Nat)(i:Nat):Nat:=if i=k then l else if i=l then k else i
def Elim.swap(E:Elim n w B R cs k){l:Nat}(hk:k<=l)(hl:l<n):Elim n w (fun i=>B (xch k l i)) (fun i=>R (xch k l i)) cs k:=by
 have f:∀ i,i<k->xch k l i=i:=fun i e=>by unfold xch;rw [iN o,iN o]
 have p:∀ i,i<n->k<=i->xch k l i<n/\k<=xch k l i:=fun i r q=>by unfold xch;split<;>(try split)<;>omega
 refine ⟨E.kn,E.cw,fun a m d b=>?_,fun i m e c b=>?_,fun a j d g=>?_,fun i j e c g=>?_⟩
 ·show R (xch k l a) _=_
  rw [f a d];exact E.piv a m d b
 ·have:=p i e c
  exact E.low _ m this.1 this.2 b
 ·show B (xch k l a) j=sm k fun m=>B (xch k l a) (cs m)*R (xch k l m) j
  rw [f a d,E.top a j d g]
  exact C5 fun m b=>by rw [f m b]
 ·have:=p i e c
  show B (xch k l i) j=R (xch k l i) j+sm k fun m=>B (xch k l i) (cs m)*R (xch k l m) j
  rw [E.bot _ j this.1 this.2 g]
  congr 1
  exact C5 fun m b=>by rw [f m b]
def B7f(B:Nat->Nat->Rat)(cs:Nat->Nat){k l:Nat}(hk:k<=l):dp (fun i=>B (xch k l i)) cs k=dp B cs k:=by
 refine Y5 fun c r _ a=>?_
 show B (xch k l r) _=_
 unfold xch;rw [iN o,iN o]
def Elim.start:Elim n w B B cs 0:=by
 refine ⟨aP _,fun m a=>o,fun l m b=>o,fun i m _ _ a=>o,fun l j b=>o,fun i j _ _ _=>by rw [sm,aV]⟩
def Elim.cs_congr{cs':Nat->Nat}(E:Elim n w B R cs k)(h:∀ m,m<k->cs m=cs' m):Elim n w B R cs' k:=by
 refine ⟨E.kn,fun m a=>by rw [<- h m a];exact E.cw m a,fun l m c a=>by rw [<- h m a];exact E.piv l m c a,fun i m e d a=>by rw [<- h m a];exact E.low i m e d a,fun l j c b=>?_,fun i j e d b=>?_⟩
 ·rw [E.top l j c b];exact C5 fun m a=>by rw [h m a]
 ·rw [E.bot i j e d b];congr 1;exact C5 fun m a=>by rw [h m a]
def B3y{cs':Nat->Nat}(h:∀ m,m<k->cs m=cs' m):dp B cs k=dp B cs' k:=Y5 fun c r a _=>by rw [h c a]
end
end Go.Proofs.YtkfhdoblhajcbaaGreatDoor
namespace Go.Proofs.YtkfhdoblhajcbaaGreatDoor
set_option maxRecDepth 20000
def fnd(p:Nat->Bool):Nat->Nat->Nat
 | 0,i=>i
 | f+1,i=>bif p i then i else fnd p f (i+1)
def A5t(p:Nat->Bool):∀ f i,i<=fnd p f i/\fnd p f i<=i+f:=by
 intro f
 induction f with
 | zero=>intro i;simp [fnd]
 | succ f ih=>
  intro i
  unfold fnd
  grind
def Yp(p:Nat->Bool):∀ f i,fnd p f i<i+f->p (fnd p f i)=true:=by
 intro f
 induction f with
 | zero=>intro i h;simp [fnd] at h
 | succ f ih=>
  intro i h
  unfold fnd at h ⊢
  grind
def Qy(p:Nat->Bool):∀ f i j,i<=j->j<fnd p f i->p j=false:=by
 intro f
 induction f with
 | zero=>intro i j b a;simp [fnd] at a;omega
 | succ f ih=>
  intro i j b a
  unfold fnd at a
  grind
def A1t{p q:Nat->Bool}: ∀ f i,(∀ j,i<=j->j<i+f->p j=q j)->fnd p f i=fnd q f i:=by
 intro f
 induction f with
 | zero=>intros;rfl
 | succ f ih=>
  intro i h
  unfold fnd
  grind
def We(p:Nat->Bool){f i k:Nat}(h1:i<=k)(h2:k<=i+f)(h3:∀ j,i<=j->j<k->p j=false)(h4:k<i+f->p k=true):fnd p f i=k:=by
 have a:=A5t p f i
 rcases Nat.lt_trichotomy (fnd p f i) k with h|h|h
 ·have:=Yp p f i o;grind
 ·exact h
 ·have:=Qy p f i k h1 h;grind
structure ES where
 R:Nat->Nat->Rat
 cs:List Nat
 det:Rat
def elimE(R:Nat->Nat->Rat)(k j:Nat):Nat->Nat->Rat:=fun a b=>if a=k then R k b/R k j else if R a j=0\/b<j then R a b else R a b-R a j*(R k b/R k j)
def Gg(n c:Nat)(s:ES):Nat:=fnd (fun i=>decide (s.R i c≠0)) (n-s.cs.length) s.cs.length
def Y8(n c:Nat)(s:ES):ES:=
 if s.cs.length<n then
  if Gg n c s<n then
   { R:=elimE (fun i=>s.R (xch s.cs.length (Gg n c s) i)) s.cs.length c
     cs:=s.cs++[c]
     det:=(if Gg n c s=s.cs.length then s.det else-s.det)*s.R (Gg n c s) c }
  else { s with det:=0 }
 else s
def Nq(n:Nat)(s:ES):Nat->ES
 | 0=>s
 | c+1=>Y8 n c (Nq n s c)
structure PS where
 M:Nat->Nat->Int
 S:Nat->Rat
 cs:List Nat
 last:Int
 sgn:Int
def clr(M:Nat->Nat->Int)(r c:Nat)(d:Int):Nat->Nat->Int:=fun a b=>if a=r then M r b else (M r c*M a b-M a c*M r b).tdiv d
def Rp(n c:Nat)(s:PS):Nat:=fnd (fun i=>decide (s.M i c≠0)) (n-s.cs.length) s.cs.length
def Di(n c:Nat)(s:PS):PS:=
 if Rp n c s<n then
  { M:=clr (fun i=>s.M (xch s.cs.length (Rp n c s) i)) s.cs.length c s.last
    S:=fun i=>s.S (xch s.cs.length (Rp n c s) i)
    cs:=s.cs++[c]
    last:=s.M (Rp n c s) c
    sgn:=if Rp n c s=s.cs.length then s.sgn else-s.sgn }
 else s
def Ha(n:Nat)(s:PS):Nat->PS
 | 0=>s
 | c+1=>Di n c (Ha n s c)
def pr:Nat->(Nat->Rat)->Rat
 | 0,_=>1
 | n+1,f=>pr n f*f n
def B39{n:Nat}{f g:Nat->Rat}(h:∀ i,i<n->f i=g i):pr n f=pr n g:=by
 induction n with
 | zero=>rfl
 | succ n ih=>rw [pr,pr,ih (fun i a=>h i o),h n o]
def If(k l:Nat):xch k l k=l:=by unfold xch;grind
def Gc{k l i n:Nat}(hk:k<n)(hl:l<n)(hi:i<n):xch k l i<n:=by unfold xch;grind
def A8d{k l i:Nat}(hkl:k<=l)(hi:k<=i):k<=xch k l i:=by unfold xch;grind
def Zx{k l i:Nat}(hkl:k<=l)(hi:i<k):xch k l i=i:=by unfold xch;grind
def A33{x d z:Int}(hd:d≠0)(h:x=d*z):x.tdiv d=z:=by
 simp_all
structure ERel (n w c:Nat) (A:Nat->Nat->Rat) (s:ES) (t:PS):Prop where
 cs:s.cs=t.cs
 elim:∃ B,(∀ i j,i<n->j<w->Wh (B i j))/\Elim n w B (fun i j=>if i<s.cs.length then s.R i j else t.S i*s.R i j) (fun m=>s.cs.getD m 0) s.cs.length/\(t.last:Rat)=dp B (fun m=>s.cs.getD m 0) s.cs.length
 last:t.last≠0
 val:∀ i j,i<n->j<w->(t.M i j:Rat)=t.last*(if i<s.cs.length then s.R i j else t.S i*s.R i j)
 scale:∀ i,i<n->t.S i≠0
 zero:∀ i j,i<n->s.cs.length<=i->j<c->s.R i j=0
 asc:s.cs.length<=c
 det:s.cs.length=c->s.det*pr s.cs.length t.S=t.sgn*t.last
 miss:s.cs.length<c->s.cs.length<n->s.det=0
 sgn:t.sgn=1\/t.sgn= -1
def P8{z:Int}(h:z≠0):(z:Rat)≠0:=by
 simp_all
def ERel.start{n w:Nat}{A:Nat->Nat->Rat}{M:Nat->Nat->Int}{S:Nat->Rat}(h:∀ i j,i<n->j<w->(M i j:Rat)=S i*A i j)(hS:∀ i,i<n->S i≠0):ERel n w 0 A ⟨A,[],1⟩ ⟨M,S,[],1,1⟩:=by
 refine ⟨rfl,⟨fun i j=>S i*A i j,fun i j b a=>⟨M i j,(h i j b a).symm⟩,?_,rfl⟩,(by decide:(1:Int)≠0),fun i j b a=>?_,hS,fun i j _ _ a=>o,aE _,fun _=>?_,fun h=>by simp at h,.inl rfl⟩
 ·show Elim n w _ (fun i j=>if i<([]:List Nat).length then A i j else S i*A i j) _ 0
  exact Elim.start
 ·grind
 rfl
def Mq(l:List Nat)(c:Nat):∀ m,m<l.length->(l++[c]).getD m 0=l.getD m 0:=by
 grind
def A1p(l:List Nat)(c:Nat):(l++[c]).getD l.length 0=c:=by
 grind
def ERel.row{n w c:Nat}{A:Nat->Nat->Rat}{s:ES}{t:PS}(h:ERel n w c A s t)(hc:c<w):Rp n c t=Gg n c s:=by
 unfold Rp Gg
 rw [<- h.cs]
 refine A1t _ _ fun j f b=>?_
 have a:=h.val j c o hc
 have g:=P8 h.last
 have d:=h.scale j o
 refine decide_eq_decide.2 (not_congr ⟨fun e=>?_,fun e=>?_⟩)
 ·rw [e] at a
  grind
 simp_all
def ERel.step{n w c:Nat}{A:Nat->Nat->Rat}{s:ES}{t:PS}(h:ERel n w c A s t)(hc:c<w):ERel n w (c+1) A (Y8 n c s) (Di n c t):=by
 have T:=h.row hc
 have a:=A5t (fun i=>decide (s.R i c≠0)) (n-s.cs.length) s.cs.length
 have H:=Qy (fun i=>decide (s.R i c≠0)) (n-s.cs.length) s.cs.length
 have O:=Yp (fun i=>decide (s.R i c≠0)) (n-s.cs.length) s.cs.length
 have hR:fnd (fun i=>decide (s.R i c≠0)) (n-s.cs.length) s.cs.length=Gg n c s:=rfl
 rw [hR] at a H O
 obtain ⟨B,hB,E,hD⟩:=h.elim
 unfold Y8 Di
 rw [T]
 by_cases u:Gg n c s<n
 ·have f:s.cs.length<n:=o
  rw [iP f,iP u,iP u,<- h.cs]
  generalize hr:Gg n c s=r at *
  generalize hl:s.cs.length=k at *
  have E1:=E.swap (l:=r) a.1 u
  have F:∀ m,m<k->s.cs.getD m 0=(s.cs++[c]).getD m 0:=fun m hm=>(Mq s.cs c m o).symm
  have E2:=E1.cs_congr F
  have y:(s.cs++[c]).getD k 0=c:=gz0
  have p:(s.cs++[c]).length=k+1:=gz0
  have xk:xch k r k=r:=If k r
  have aj:=h.scale r u
  have ac:t.S r*s.R r c≠0:=by
   grind
  have E3:=E2.step (j:=c) f hc y gz0
  have ag:=E2.next (j:=c) f hc y
  have ai:dp (fun i=>B (xch k r i)) (fun m=>(s.cs++[c]).getD m 0) k=(t.last:Rat):=by
   rw [hD,<- B3y F,B7f B _ a.1]
  have G:(t.M r c:Rat)=t.last*(t.S r*s.R r c):=by
   have:=h.val r c u hc
   grind
  have Q:dp (fun i=>B (xch k r i)) (fun m=>(s.cs++[c]).getD m 0) (k+1)=(t.M r c:Rat):=by
   grind
  have ad:=P8 h.last
  have N:t.M r c≠0:=by
   intro e
   rw [e] at G
   grind
  have hz:∀ b,b<c->s.R r b=0:=fun b hb=>h.zero r b u o hb
  have hQ:∀ i j,(if i<k+1 then elimE (fun i=>s.R (xch k r i)) k c i j else t.S (xch k r i)*elimE (fun i=>s.R (xch k r i)) k c i j)=Bp (fun i j=>if xch k r i<k then s.R (xch k r i) j else t.S (xch k r i)*s.R (xch k r i) j) k c i j:=by
   intro i j
   unfold elimE Bp
   by_cases e:i=k
   ·grind
   ·simp only [iN e,xk,iN (show ¬ r<k from o)]
    by_cases d:i<k
    ·rw [iP (show i<k+1 from o),Zx a.1 d,iP d,iP d]
     grind
    ·have W:¬ xch k r i<k:=by have:=A8d (i:=i) a.1 o;omega
     grind
  have aa:(fun i j=>if i<k+1 then elimE (fun i=>s.R (xch k r i)) k c i j else t.S (xch k r i)*elimE (fun i=>s.R (xch k r i)) k c i j)=Bp (fun i j=>if xch k r i<k then s.R (xch k r i) j else t.S (xch k r i)*s.R (xch k r i) j) k c:=by
   grind
  have q:∀ i,i<n->xch k r i<n:=fun i d=>Gc f u d
  refine ⟨rfl,⟨fun i=>B (xch k r i),fun i j d D=>hB _ j (q i d) D,?_,?_⟩,N,fun i j d D=>?_,fun i d=>h.scale _ (q i d),fun i j d L D=>?_,?_,fun X=>?_,fun X _=>?_,?_⟩
  ·show Elim n w _ (fun i j=>if i<(s.cs++[c]).length then elimE (fun i=>s.R (xch k r i)) k c i j else t.S (xch k r i)*elimE (fun i=>s.R (xch k r i)) k c i j) _ (s.cs++[c]).length
   rw [p,aa]
   exact E3
  ·grind
  ·show (clr (fun i=>t.M (xch k r i)) k c t.last i j:Rat)=(t.M r c:Rat)*(if i<(s.cs++[c]).length then elimE (fun i=>s.R (xch k r i)) k c i j else t.S (xch k r i)*elimE (fun i=>s.R (xch k r i)) k c i j)
   rw [p,hQ i j]
   unfold clr
   by_cases e:i=k
   ·subst e
    rw [iP rfl]
    show (t.M (xch i r i) j:Rat)=_
    unfold Bp
    have:=h.val r j u D
    grind
   ·rw [iN e]
    show (((t.M (xch k r k) c*t.M (xch k r i) j-t.M (xch k r i) c*t.M (xch k r k) j).tdiv t.last:Int):Rat)=_
    rw [xk]
    have hw:=E3.whole (fun i j d D=>hB _ j (q i d) D) d D
    rw [Q] at hw
    obtain ⟨z,V⟩:=hw
    have v1:=h.val (xch k r i) j (q i d) D
    have v2:=h.val (xch k r i) c (q i d) hc
    have v3:=h.val r j u D
    have W:t.M r c*t.M (xch k r i) j-t.M (xch k r i) c*t.M r j=t.last*z:=by
     have:((t.M r c*t.M (xch k r i) j-t.M (xch k r i) c*t.M r j:Int):Rat)=((t.last*z:Int):Rat):=by
      rw [Rat.intCast_sub,aR,aR,aR,<- V,v1,v2,v3,G]
      unfold Bp
      grind
     exact_mod_cast this
    rw [A33 h.last W,<- V]
  ·show elimE (fun i=>s.R (xch k r i)) k c i j=0
   have ae:k+1<=i:=by
    grind
   have af:=A8d (i:=i) a.1 (show k<=i from o)
   unfold elimE
   rw [iN o]
   by_cases e:j=c
   ·grind
   ·rw [iP (.inr o)]
    exact h.zero _ j (q i d) o o
  ·show (s.cs++[c]).length<=c+1
   have:=h.asc
   omega
  ·show (if r=k then s.det else -s.det)*s.R r c*pr (s.cs++[c]).length (fun i=>t.S (xch k r i))=((if r=k then t.sgn else -t.sgn:Int):Rat)*(t.M r c:Rat)
   have ah:k=c:=by
    grind
   have hd:=h.det o
   rw [p,pr,xk,B39 (g:=t.S) fun i d=>by rw [Zx a.1 d],G]
   by_cases e:r=k
   ·grind
   ·rw [iN e,iN e,Rat.intCast_neg];grind
  ·show (if r=k then s.det else -s.det)*s.R r c=0
   have:(s.cs++[c]).length<c+1:=X
   have hd:=h.miss o o
   grind
  ·show (if r=k then t.sgn else -t.sgn)=1\/(if r=k then t.sgn else -t.sgn)= -1
   have:=h.sgn
   omega
 ·rw [iN u,iN u]
  have C:∀ i j,i<n->s.cs.length<=i->j<c+1->s.R i j=0:=by
   intro i j d L D
   by_cases e:j=c
   ·grind
   ·exact h.zero i j d L o
  by_cases f:s.cs.length<n
  ·rw [iP f]
   exact ⟨h.cs,⟨B,hB,E,hD⟩,h.last,h.val,h.scale,C,Nat.le_succ_of_le h.asc,fun X=>by have:=h.asc;grind,fun _ _=>rfl,h.sgn⟩
  ·rw [iN f]
   exact ⟨h.cs,⟨B,hB,E,hD⟩,h.last,h.val,h.scale,C,Nat.le_succ_of_le h.asc,fun X=>by have:=h.asc;omega,fun _ W=>absurd W f,h.sgn⟩
def ERel.run{n w:Nat}{A:Nat->Nat->Rat}{s:ES}{t:PS}(h:ERel n w 0 A s t):∀ c,c<=w->ERel n w c A (Nq n s c) (Ha n t c):=by
 intro c
 induction c with
 | zero=>exact fun _=>h
 | succ c ih=>exact fun a=>(ih o).step o
end Go.Proofs.YtkfhdoblhajcbaaGreatDoor
namespace Go.Proofs.YtkfhdoblhajcbaaGreatDoor
set_option maxRecDepth 20000
def Sz.elimE{n w k j m:Nat}{R:Nat->Nat->Rat}(hR:∀ a b,a<n->b<w->Sz m (R a b))(hk:k<n)(hj:j<w)(hm:1<=m){a b:Nat}(ha:a<n)(hb:b<w):Sz (7*m) (elimE R k j a b):=by
 have c:Sz (m+m) (R k b/R k j):=(hR k b hk hb).div (hR k j hk hj) hm
 unfold Go.Proofs.YtkfhdoblhajcbaaGreatDoor.elimE
 split
 ·exact c.mono o
 ·split
  ·exact (hR a b ha hb).mono o
  ·exact ((hR a b ha hb).sub ((hR a j ha hj).mul c)).mono o
structure SzE (n w m:Nat) (s:ES):Prop where
 R:∀ a b,a<n->b<w->Sz (7^s.cs.length*m) (s.R a b)
 det:Sz (7^s.cs.length*m) s.det
 len:s.cs.length<=n
def Qw(k m:Nat)(hm:1<=m):1<=7^k*m:=by
 have:0<7^k:=Nat.pow_pos dc
 exact Nat.mul_pos this hm
def SzE.step{n w m c:Nat}{s:ES}(h:SzE n w m s)(hm:1<=m)(hc:c<w):SzE n w m (Y8 n c s):=by
 have j:=Qw s.cs.length m hm
 unfold Y8
 by_cases f:s.cs.length<n
 ·rw [iP f]
  by_cases d:Gg n c s<n
  ·rw [iP d]
   have e:(s.cs++[c]).length=s.cs.length+1:=by simp
   have k:7^(s.cs.length+1)*m=7*(7^s.cs.length*m):=gz0
   refine ⟨fun a b g i=>?_,?_,?_⟩
   ·show Sz (7^(s.cs++[c]).length*m) _
    rw [e,k]
    exact Sz.elimE (n:=n) (w:=w) (fun a b g i=>h.R _ b (Gc f d g) i) f hc j g i
   ·show Sz (7^(s.cs++[c]).length*m) ((if Gg n c s=s.cs.length then s.det else -s.det)*s.R (Gg n c s) c)
    rw [e,k]
    have:Sz (7^s.cs.length*m) (if Gg n c s=s.cs.length then s.det else -s.det):=by
     split
     ·exact h.det
     ·exact h.det.neg
    exact (this.mul (h.R _ c d hc)).mono o
   grind
  ·rw [iN d]
   exact ⟨h.R,Sz.zero j,h.len⟩
 grind
def SzE.run{n w m:Nat}{s:ES}(h:SzE n w m s)(hm:1<=m):∀ c,c<=w->SzE n w m (Nq n s c):=by
 intro c
 induction c with
 | zero=>exact fun _=>h
 | succ c ih=>exact fun a=>(ih o).step hm o
def B4e{m:Nat}{x d:Int}(h:ZB m x):ZB m (x.tdiv d):=by
 refine h.le ?_
 rw [Int.natAbs_tdiv]
 exact cJ _ _
def ZB.clr{n w k j m:Nat}{M:Nat->Nat->Int}{d:Int}(hM:∀ a b,a<n->b<w->ZB m (M a b))(hk:k<n)(hj:j<w){a b:Nat}(ha:a<n)(hb:b<w):ZB (2*m+1) (clr M k j d a b):=by
 unfold Go.Proofs.YtkfhdoblhajcbaaGreatDoor.clr
 split
 ·exact (hM k b hk hb).mono o
 ·refine B4e ?_
  have c:=(hM k j hk hj).mul (hM a b ha hb)
  have e:=(hM a j ha hj).mul (hM k b hk hb)
  exact (c.sub e).mono o
def A3e(n c:Nat)(s:PS)(h:s.cs.length<=n):s.cs.length<=Rp n c s/\Rp n c s<=n:=by
 have:=A5t (fun i=>decide (s.M i c≠0)) (n-s.cs.length) s.cs.length
 unfold Rp
 omega
structure ZbP (n w m l:Nat) (s:PS):Prop where
 M:∀ a b,a<n->b<w->ZB (3^s.cs.length*m) (s.M a b)
 last:ZB (3^s.cs.length*m) s.last
 S:∀ a,a<n->Sz l (s.S a)
 len:s.cs.length<=n
def A5e(k m:Nat)(hm:1<=m):1<=3^k*m:=by
 have:0<3^k:=Nat.pow_pos dc
 exact Nat.mul_pos this hm
def ZbP.step{n w m l c:Nat}{s:PS}(h:ZbP n w m l s)(hm:1<=m)(hc:c<w):ZbP n w m l (Di n c s):=by
 have k:=A3e n c s h.len
 have p:=A5e s.cs.length m hm
 unfold Di
 by_cases f:Rp n c s<n
 ·rw [iP f]
  have g:s.cs.length<n:=o
  have e:(s.cs++[c]).length=s.cs.length+1:=by simp
  have j:3^(s.cs.length+1)*m=3*(3^s.cs.length*m):=gz0
  refine ⟨fun a b d i=>?_,?_,fun a d=>h.S _ (Gc g f d),?_⟩
  ·show ZB (3^(s.cs++[c]).length*m) _
   rw [e,j]
   exact (ZB.clr (n:=n) (w:=w) (fun a b d i=>h.M _ b (Gc g f d) i) g hc d i).mono o
  ·show ZB (3^(s.cs++[c]).length*m) (s.M (Rp n c s) c)
   rw [e,j]
   exact (h.M _ c f hc).mono o
  grind
 grind
def ZbP.run{n w m l:Nat}{s:PS}(h:ZbP n w m l s)(hm:1<=m):∀ c,c<=w->ZbP n w m l (Ha n s c):=by
 intro c
 induction c with
 | zero=>exact fun _=>h
 | succ c ih=>exact fun a=>(ih o).step hm o
structure Asc (l:List Nat) (c:Nat):Prop where
 lt:∀ x∈l,x<c
 asc:l.Pairwise (· < ·)
def Asc.snoc{l:List Nat}{c:Nat}(h:Asc l c):Asc (l++[c]) (c+1):=by
 refine ⟨fun x d=>?_,?_⟩
 ·rcases List.mem_append.1 d with d|d
  ·have:=h.lt x d;omega
  grind
 ·rw [List.pairwise_append]
  refine ⟨h.asc,by simp,fun a f b e=>?_⟩
  simp at e;subst e;exact h.lt a f
def Asc.mono{l:List Nat}{c d:Nat}(h:Asc l c)(hcd:c<=d):Asc l d:=⟨fun x a=>Nat.lt_of_lt_of_le (h.lt x a) hcd,h.asc⟩
def Fn(n:Nat)(s:ES)(h:s.cs=[]):∀ c,Asc (Nq n s c).cs c:=by
 intro c
 induction c with
 | zero=>show Asc s.cs 0;rw [h];exact ⟨by simp,.nil⟩
 | succ c ih=>
  show Asc (Y8 n c (Nq n s c)).cs (c+1)
  unfold Y8
  split
  ·split
   ·exact ih.snoc
   ·exact ih.mono o
  ·exact ih.mono o
def R9(z:Int)(l:List aN):iAt (I z::l) 0=z:=rfl
def A6h:prog.cellsOf 37=4/\(prog.info? 37).isSome=true:=A0d
def A8q:prog.cellsOf 244=4/\(prog.info? 244).isSome=true:=Fi
section
variable {α β:Type} [E:Enc α] {R:aD->α->β->Prop}
def OwnK(R:aD->α->β->Prop)(h h':aD)(b n k:Nat)(f:Nat->β):Prop:=∃ g o xs,h.le g/\Sep h' g o/\RowX o b xs/\xs.length=n/\Row R g xs k f
def OwnK.own{h h':aD}{b n:Nat}{f:Nat->β}(w:OwnK R h h' b n n f):Own R h h' b n f:=⟨w⟩
def OwnK.le{h h':aD}{b n k:Nat}{f:Nat->β}(w:OwnK R h h' b n k f):h.le h':=by
 obtain ⟨g,o,a,l,s,_⟩:=w
 exact B0 l s.le
def OwnK.zero{h:aD}{b n:Nat}{f:Nat->β}{e:aK}{z:α}(hb:h b=none):OwnK R h (B5f e h b (bW n z)) b n 0 f:=
 ⟨h,An.put b (.cells ((bW n z).flatMap enc).toArray e),bW n z,B7 _,V8 hb,RowX.mk,by simp,Row.nil⟩
def OwnK.store(m:Mon R){P:aU}{t:aK}(one:P.cellsOf t=E.default.size/\(P.info? t).isSome=true){h h' g g' o:aD}{b n k:Nat}{f:Nat->β}{xs:List α}(lg:h.le g)(lg':g.le g')(s:Sep h' g' o)(rb:RowX o b xs)(hn:xs.length=n)(r:Row R g xs k f)(hk:k<n){v:aN}{y:α}(hv:v.cells=(enc y).toArray)(hy:R g' y (f k)){K:Unit->aD->Prop}
 (x:∀ h2,OwnK R h h2 b n (k+1) f->K () h2):wpH P (aH t (.pointer (some (aC ⟨b,0,none⟩ (k*E.default.size)))) v) K h':=by
 refine Q1 one hv s rb oo ?_
 intro h2 d i e c a
 exact x h2 ⟨g',d,_,B0 lg lg',c,a,gz0,(r.mono m lg').set oo hy⟩
end
def S3:QV:=⟨false,none,0,0,false,none,0,0⟩
section
variable {h:aD} {K:VP} {A:Option aG} {n c m:Nat} {ls:Nat->List UInt8} {f:Nat->Rat} {a w:QV} {q:Rat}
def Cu(gl:Gl h)(r:RowV SSr h A n ls)(hn:n<=1000000)(hl:LL n ls)
 (hK1:(∀ i,i<n->cR (ls i))->∀ b h',Own RQr h h' b n (fun i=>rv (ls i))->K (.tuple #[.slice (some ⟨b,0,none⟩) n n,.bool true]) h')
 (hK0:¬ (∀ i,i<n->cR (ls i))->∀ h',h.le h'->K (.tuple #[.slice none 0 0,.bool false]) h'):aI prog 153 #[.slice A n c] h K:=by
 refine (fnk func153 [(3,[14],[],[I 0])] (own:=[7])) ?_
 refine I3 Zq (zx:=S3) rfl oo oo oo oo ?_
 intro b N
 refine ⟨_,_,_,rfl,fun L u=>∃ k:Nat,k<=n/\L=[I k]/\(∀ i,i<k->cR (ls i))/\OwnK RQr h u b n k (fun i=>rv (ls i)),fun L _=>n-(iAt L 0).toNat,⟨0,oo,rfl,fun i S=>oo,OwnK.zero N⟩,?_⟩
 rintro t u ⟨k,V,W,l,g,o,Q,f,s,E,F,D⟩
 obtain rfl:t=(k:Int):=gz0
 refine C0 (fun M=>?_) (fun G=>?_)
 ·have d:k<n:=oo
  obtain ⟨a,rfl,T⟩:=(r.mono E9 (B0 f s.le)).sat d
  refine ⟨a,rfl,oo,oo,_,T,?_⟩
  refine s.call (Od (gl.mono f).tz (hl k d) ?_ ?_)
  ·intro q e w C z H B p
   refine ⟨_,_,_,_,_,_,_,_,_,rfl,_,rfl,oo,oo,?_⟩
   refine OwnK.store G2 A8q (y:=w) f z p E F D d rfl (by show RQ C w (rv (ls k));rw [e,G1];exact H) ?_
   intro X R
   rw [wiS k oo]
   refine ⟨⟨k+1,oo,rfl,fun i S=>?_,R⟩,?_⟩
   ·by_cases O:i=k
    ·subst O;exact ⟨q,e⟩
    grind
   ·simp only [R9];omega
  ·intro m w C z _ B p
   exact ⟨_,_,_,_,_,_,_,_,_,rfl,hK0 (fun j=>m (j k d)) B (B0 f (B0 z p.le))⟩
 ·have:k=n:=oo
  subst this
  exact hK1 l b u ⟨g,o,Q,f,s,E,F,D⟩
def V3(gl:Gl h)(r:RowV RQr h A n f)(hn:n<=1000000)(hs:∀ i,i<n->Sz m (f i))(hm:m<=40000000)
 (hK:∀ b h',Own SSr h h' b n (fun i=>E8 (f i))->K (.slice (some ⟨b,0,none⟩) n n) h'):aI prog 155 #[.slice A n c] h K:=by
 refine (fnk func155 [(3,[11],[],[I 0])] (own:=[5])) ?_
 refine I3 H0 (zx:=([]:List UInt8)) rfl oo oo oo oo ?_
 intro b E
 refine ⟨_,_,_,rfl,fun L j=>∃ k:Nat,k<=n/\L=[I k]/\OwnK SSr h j b n k (fun i=>E8 (f i)),fun L _=>n-(iAt L 0).toNat,⟨0,oo,rfl,OwnK.zero E⟩,?_⟩
 rintro t j ⟨k,Q,R,g,o,M,e,s,p,q,l⟩
 obtain rfl:t=(k:Int):=gz0
 refine C0 (fun D=>?_) (fun u=>?_)
 ·have d:k<n:=oo
  obtain ⟨a,w,rfl,B,H,G,z,C⟩:=(r.mono G2 e).qat d
  refine ⟨_,rfl,oo,oo,_,_,_,_,_,_,_,_,C2 s.le H,C2 s.le G,C2 s.le z,C2 s.le C,?_⟩
  refine s.call (Cs (gl.mono e).p10 B (hs k d) hm ?_)
  intro O F
  refine ⟨_,rfl,_,rfl,oo,oo,?_⟩
  refine OwnK.store E9 K0 (y:=E8 (f k)) e (B7 _) F p q l d rfl rfl ?_
  intro S N
  rw [wiS k oo]
  exact ⟨⟨k+1,oo,rfl,N⟩,by simp only [R9];omega⟩
 ·have:k=n:=oo
  subst this
  exact hK b j ⟨g,o,M,e,s,p,q,l⟩
def B07(r:RowV SSr h A n ls)(hn:n<=1000000)(hl:LL n ls)
 (hK1:(∀ i,i<n->cR (ls i))->∀ b h',Own NQr h h' b n (fun i=>rv (ls i))->K (.tuple #[.slice (some ⟨b,0,none⟩) n n,.bool true]) h')
 (hK0:¬ (∀ i,i<n->cR (ls i))->∀ h',h.le h'->K (.tuple #[.slice none 0 0,.bool false]) h'):aI prog 17 #[.slice A n c] h K:=by
 refine (fnk func17 [(3,[5],[],[I 0])] (own:=[6])) ?_
 refine I3 Un (zx:=S3) rfl oo oo oo oo ?_
 intro b N
 refine ⟨_,_,_,rfl,fun L u=>∃ k:Nat,k<=n/\L=[I k]/\(∀ i,i<k->cR (ls i))/\OwnK NQr h u b n k (fun i=>rv (ls i)),fun L _=>n-(iAt L 0).toNat,⟨0,oo,rfl,fun i S=>oo,OwnK.zero N⟩,?_⟩
 rintro t u ⟨k,V,W,j,g,o,Q,l,s,E,F,D⟩
 obtain rfl:t=(k:Int):=gz0
 refine C0 (fun M=>?_) (fun G=>?_)
 ·have d:k<n:=oo
  obtain ⟨a,rfl,T⟩:=(r.mono E9 (B0 l s.le)).sat d
  refine ⟨a,rfl,oo,oo,_,T,?_⟩
  refine s.call (A9a (hl k d) ?_ ?_)
  ·intro q e w C z H B p
   refine ⟨_,_,_,_,_,_,_,_,_,rfl,_,rfl,oo,oo,?_⟩
   refine OwnK.store Q6 A6h (y:=w) l z p E F D d rfl (by show NQ C w (rv (ls k));rw [e,G1];exact H) ?_
   intro X R
   rw [wiS k oo]
   refine ⟨⟨k+1,oo,rfl,fun i S=>?_,R⟩,?_⟩
   ·by_cases O:i=k
    ·subst O;exact ⟨q,e⟩
    grind
   ·simp only [R9];omega
  ·intro m w C z B p
   exact ⟨_,_,_,_,_,_,_,_,_,rfl,hK0 (fun f=>m (f k d)) B (B0 l (B0 z p.le))⟩
 ·have:k=n:=oo
  subst this
  exact hK1 j b u ⟨g,o,Q,l,s,E,F,D⟩
def Vh(r:RowV NQr h A n f)(hn:n<=1000000)(hs:∀ i,i<n->Sz m (f i))(hm:m<=1000000000)
 (hK:∀ b h',Own SSr h h' b n (fun i=>E8 (f i))->K (.slice (some ⟨b,0,none⟩) n n) h'):aI prog 11 #[.slice A n c] h K:=by
 refine (fnk func11 [(3,[4],[],[I 0])]) ?_
 refine I3 H0 (zx:=([]:List UInt8)) rfl oo oo oo oo ?_
 intro b E
 refine ⟨_,_,_,rfl,fun L j=>∃ k:Nat,k<=n/\L=[I k]/\OwnK SSr h j b n k (fun i=>E8 (f i)),fun L _=>n-(iAt L 0).toNat,⟨0,oo,rfl,OwnK.zero E⟩,?_⟩
 rintro t j ⟨k,Q,R,g,o,M,e,s,p,q,l⟩
 obtain rfl:t=(k:Int):=gz0
 refine C0 (fun D=>?_) (fun u=>?_)
 ·have d:k<n:=oo
  obtain ⟨a,w,rfl,B,H,G,z,C⟩:=(r.mono Q6 e).qat d
  refine ⟨_,rfl,oo,oo,_,_,_,_,_,_,_,_,C2 s.le H,C2 s.le G,C2 s.le z,C2 s.le C,?_⟩
  refine s.call (A0a B (hs k d) hm ?_)
  intro O F
  refine ⟨_,rfl,_,rfl,oo,oo,?_⟩
  refine OwnK.store E9 K0 (y:=E8 (f k)) e (B7 _) F p q l d rfl rfl ?_
  intro S N
  rw [wiS k oo]
  exact ⟨⟨k+1,oo,rfl,N⟩,by simp only [R9];omega⟩
 ·have:k=n:=oo
  subst this
  exact hK b j ⟨g,o,M,e,s,p,q,l⟩
def Cp(f:Nat->Rat):Nat->Nat
 | 0=>1
 | n+1=>Nat.lcm (Cp f n) (f n).den
def Yi(f:Nat->Rat):∀ n,0<Cp f n:=by
 intro n
 induction n with
 | zero=>exact Nat.one_pos
 | succ n ih=>exact Nat.lcm_pos ih (f n).den_pos
def Yj(f:Nat->Rat):∀ n i,i<n->(f i).den∣Cp f n:=by
 intro n
 induction n with
 | zero=>omega
 | succ n ih=>
  intro i a
  by_cases e:i=n
  ·subst e;exact Nat.dvd_lcm_right _ _
  ·exact Nat.dvd_trans (ih i o) (Nat.dvd_lcm_left _ _)
def ZB.lcm{k j:Nat}{x y:Nat}(hx:ZB k (x:Int))(hy:ZB j (y:Int)):ZB (k+j) ((Nat.lcm x y:Nat):Int):=by
 have:=hx.mul hy
 refine Nat.lt_of_le_of_lt ?_ this
 exact cJ _ _
def Kc{f:Nat->Rat}{m:Nat}: ∀ n,(∀ i,i<n->Sz m (f i))->ZB (1+n*m) (Cp f n:Int):=by
 intro n
 induction n with
 | zero=>intro _;exact ZB.one o
 | succ n ih=>
  intro h
  have:=(ih fun i a=>h i o).lcm (h n o).den
  exact this.mono gz0
def Ds(gl:Gl h)(r:RowV RQr h A n f)(hn:n<=1000000)(hs:∀ i,i<n->Sz m (f i))(hm:1+n*m+m<=6400000000)
 (hK:∀ s A' n' c' h',h.le h'->ZI h' s A' n' c' (Cp f n:Int)->K (.agg #[.bool s,.slice A' n' c']) h'):aI prog 199 #[.slice A n c] h K:=by
 refine (fnk func199 [(3,[9],[(3,2)],[I 0,.bool false,.slice none 0 0])] (own:=[2,3,5])) ?_
 refine Dy o o ?_
 intro s1 A1 n1 c1 C l1 i1
 refine ⟨_,_,_,_,rfl,fun L y=>∃ (k:Nat) (s:Bool) (B:Option aG) (p q:Nat),k<=n/\L=[I k,.bool s,.slice B p q]/\h.le y/\ZI y s B p q (Cp f k:Int),fun L _=>n-(iAt L 0).toNat,⟨0,_,_,_,_,o,rfl,l1,i1⟩,?_⟩
 rintro t s B p q y ⟨k,D,B',j,g,hk,W,l,i⟩
 obtain ⟨rfl,rfl,rfl,rfl,rfl⟩:=W
 have H:C4 ((k:Int)+1)=((k+1:Nat):Int):=by rw [C1]<;>omega
 refine C0 (fun R=>?_) (fun N=>?_)
 ·have u:k<n:=o
  obtain ⟨a,w,rfl,F,X,T,O,Q⟩:=(r.mono G2 l).qat u
  have d:1+k*m+m<=6400000000:=by
   have:k*m<=n*m:=aF _ o
   omega
  have S:=(Kc k fun i hi=>hs i o).mono (show 1+k*m<=1+k*m+m from o)
  have M:=(hs k u).den.mono (show m<=1+k*m+m from o)
  refine ⟨_,rfl,o,o,_,_,_,_,_,_,_,_,X,T,O,Q,?_⟩
  refine F6 F.den ⟨_,rfl,?_⟩
  have z:((if (f k).den=1 then 0 else ((f k).den:Int))=0)↔(f k).den=1:=by
   have:=(f k).den_pos
   omega
  have same:Cp f (k+1)=Cp f k->(∃ (k':Nat) (D:Bool) (B':Option aG) (j g:Nat),k'<=n/\[I (C4 ((k:Int)+1)),.bool s,.slice B p q]=[I k',.bool D,.slice B' j g]/\h.le y/\ZI y D B' j g (Cp f k':Int))/\n-(iAt [I (C4 ((k:Int)+1)),.bool s,.slice B p q] 0).toNat<n-(iAt [I (k:Int),.bool s,.slice B p q] 0).toNat:=by
   intro e
   rw [H]
   exact ⟨⟨k+1,_,_,_,_,o,rfl,l,gz0⟩,by simp only [R9];omega⟩
  refine Br.not (C0 (fun C=>?_) (fun C=>?_))
  ·have E:=z.1 C
   exact same (by rw [Cp,E];grind)
  ·have E:(if (f k).den=1 then 0 else ((f k).den:Int))=((f k).den:Int):=iN fun e=>C (z.2 e)
   have b:=F.den
   rw [E] at b
   refine A2t b i M d ⟨_,rfl,?_⟩
   refine Br.not (C0 (fun G=>?_) (fun G=>?_))
   ·have V:(f k).den=Cp f k:=by exact_mod_cast G
    exact same (by rw [Cp,V];grind)
   ·refine A8b (gl.mono l).tz i b S M d ?_
    intro A' n' c' h' l' i'
    refine ⟨_,_,_,_,rfl,?_⟩
    rw [H]
    refine ⟨⟨k+1,_,_,_,_,o,rfl,B0 l l',?_⟩,by simp only [R9];omega⟩
    assumption
 grind
def scl(q:Rat)(d:Int):Int:=q.num*d.tdiv q.den
def B6t(q:Rat):q*(q.den:Rat)=(q.num:Rat):=by
 have h:=Rat.num_divInt_den q
 rw [bI] at h
 have a:((q.den:Int):Rat)≠0:=P8 (den_ne q)
 have e:((q.den:Int):Rat)=(q.den:Rat):=rfl
 grind
def A92{q:Rat}{d:Int}(h:(q.den:Int)∣d):(scl q d:Rat)=q*d:=by
 obtain ⟨e,rfl⟩:=h
 unfold scl
 rw [Int.mul_tdiv_cancel_left _ (den_ne q),aR,aR]
 have a:q*(q.den:Rat)=(q.num:Rat):=B6t q
 have b:(((q.den:Nat):Int):Rat)=(q.den:Rat):=rfl
 grind
def A91{q:Rat}{d:Int}{k:Nat}(hq:Sz m q)(hd:ZB k d):ZB (m+k) (scl q d):=hq.num.mul hd.tdiv
def Jt{s:Bool}{B:Option aG}{bn bc:Nat}{d:Int}(i:RQ h w q)(j:ZI h s B bn bc d)(hq:Sz m q)(hd:ZB m d)(hm:m<=6400000000)
 (hK:∀ s A' n' c' h',h.le h'->ZI h' s A' n' c' (scl q d)->K (.agg #[.bool s,.slice A' n' c']) h'):aI prog 200 #[w.v,.agg #[.bool s,.slice B bn bc]] h K:=by
 refine (fnk func200 (own:=[2,3,4])) ?_
 refine F6 i.den ⟨_,rfl,?_⟩
 have c:((if q.den=1 then 0 else (q.den:Int))=0)↔q.den=1:=by
  have:=q.den_pos
  omega
 refine C0 (fun f=>?_) (fun f=>?_)
 ·refine O8 i.num j hq.num hd hm ?_
  intro r A' n' c' h' n A
  refine ⟨_,_,_,_,rfl,hK _ _ _ _ _ n ?_⟩
  have:scl q d=q.num*d:=by unfold scl;simp_all
  grind
 ·have l:(if q.den=1 then 0 else (q.den:Int))=(q.den:Int):=iN fun e=>f (c.2 e)
  have a:=i.den
  rw [l] at a
  refine S1 j a hd hq.den hm (den_ne q) ?_
  intro r A1 z c1 t b k
  refine ⟨_,_,_,_,rfl,b,?_⟩
  refine O8 (i.num.mono b) k hq.num hd.tdiv hm ?_
  intro u A2 C c2 y g p
  exact ⟨_,_,_,_,rfl,g,hK _ _ _ _ _ (B0 b g) p⟩
end
instance:Enc Int:=⟨⟨fun z=>[I z],1,fun _=>rfl,fun z v hv=>by rw [List.mem_singleton.1 hv];rfl⟩⟩
abbrev IIr:aD->Int->Int->Prop:=fun _ w z=>w=z
section
variable {α:Type} [E:Enc α]
def OwnSl(o:aD)(e:aK)(A:Option aG)(c:Nat)(xs:List α):Prop:=
 xs.length<=c/\((c=0/\A=none)\/∃ b arr,A=some ⟨b,0,none⟩/\o b=some (.cells (aZ arr) e)/\arr.length=c*E.default.size/\arr.take (xs.length*E.default.size)=xs.flatMap enc)
def OwnSl.nil{o:aD}{e:aK}:OwnSl o e none 0 ([]:List α):=⟨aE _,.inl ⟨rfl,rfl⟩⟩
def OwnSl.keep{o o':aD}{e:aK}{A:Option aG}{c:Nat}{xs:List α}(w:OwnSl o e A c xs)(h:∀ b x,A=some ⟨b,0,none⟩->o b=some x->o' b=some x):OwnSl o' e A c xs:=by
 refine ⟨w.1,?_⟩
 rcases w.2 with g|⟨b,a,j,i,f,d⟩
 ·grind
 grind
def OwnSl.rowB{o:aD}{e:aK}{A:Option aG}{c:Nat}{xs:List α}(w:OwnSl o e A c xs)(hne:xs≠[]):∃ b,A=some ⟨b,0,none⟩/\RowB o b xs:=by
 rcases w.2 with j|⟨b,a,g,f,i,d⟩
 ·exfalso
  have:=w.1
  simp_all
 ·exact ⟨b,g,e,a.drop (xs.length*E.default.size),by rw [f,<- d,aT]⟩
def OwnSl.slF{o h:aD}{e:aK}{A:Option aG}{c:Nat}{xs:List α}(w:OwnSl o e A c xs)(hl:o.le h):SlF h A xs:=by
 by_cases a:xs=[]
 ·rw [a];exact SlF.nil
 ·obtain ⟨b,rfl,r⟩:=w.rowB a
  exact r.slF hl
def OwnSl.priv{h g o:aD}{e:aK}{A:Option aG}{c:Nat}{xs:List α}(s:Sep h g o)(w:OwnSl o e A c xs):∃ gb,PrivF h gb e A c xs/\∀ k x,h k=some x->A≠some ⟨k,0,none⟩->gb k=some x:=by
 rcases w.2 with ⟨l,j⟩|⟨b,a,n,m,i,f⟩
 ·subst l
  have p:xs=[]:=cG (by have:=w.1;omega)
  subst p
  exact ⟨h,PrivF.nil h e A,fun k x e _=>e⟩
 ·refine ⟨h.without b,⟨K7 xs,w.1,.inr ⟨b,a,n,N6 _ _,(J5 (s.own b _ m)).symm,i,f⟩⟩,fun k x e d=>?_⟩
  unfold Heap.without
  grind
def OwnSl.push{P:aU}{t e ty:aK}{z:aN}{bytes:Nat}(st:bV P t e z E.default.size bytes){h g o:aD}{A:Option aG}{c:Nat}{xs:List α}(s:Sep h g o)(w:OwnSl o e A c xs){v:aN}{y:α}(hv:v.cells=(enc y).toArray)(hsz:E.default.size<=1000)
 (hb:(2*(xs.length+1)+192)*bytes<=281474976710656) (hn:xs.length+1<=9223372036854775807) {K1:aD->Prop} {K:Option aG->Nat->Nat->aD->Prop}
 (x0:∀ h1,h.le h1->K1 h1)
 (x:∀ A' c' h' g' o',g.le g'->Sep h' g' o'->OwnSl o' e A' c' (xs++[y])->(∀ k u,o k=some u->A≠some ⟨k,0,none⟩->o' k=some u/\A'≠some ⟨k,0,none⟩)->K A' (xs.length+1) c' h'):
 wpH P (aO t 1 #[(0,v)]) (fun v' hp=>∃ (B:Option aG) (m d:Nat),v'= .slice B m d/\K1 hp/\wpH P (aM #[t,t] ty #[.slice A xs.length c,.slice B m d]) (fun v1 hp1=>∃ (A':Option aG) (n' c':Nat),v1= .slice A' n' c'/\K A' n' c' hp1) hp) h:=by
 obtain ⟨S,p,M⟩:=w.priv s
 refine Y3 st (vs:=[v]) (fun u hu=>by rw [List.mem_singleton.1 hu,hv];simp [E.default.len]) rfl gz0 rfl ?_
 intro b f
 have L:[v].flatMap (fun v=>v.cells.toList)=[y].flatMap enc:=by simp [hv]
 rw [L]
 refine ⟨_,_,_,rfl,x0 _ (Heap.le_put _ f),?_⟩
 have p':PrivF (h.put b (.cells ([y].flatMap enc).toArray e)) (S.put b (.cells ([y].flatMap enc).toArray e)) e A c xs:=Priv.put p f _
 refine Ah st p' (ys:=[y]) rfl (Zg e h b [y]) hb hn ?_
 intro A' c' h' g' V hp
 refine ⟨_,_,_,rfl,?_⟩
 rw [aQ]
 have q:∀ k u,h k=some u->A≠some ⟨k,0,none⟩->g' k=some u:=by
  intro k u a Q
  have j:k≠b:=gz0
  exact V k u (by rw [B9 _ _ j];grind)
 have H:∀ k u,g k=some u->A≠some ⟨k,0,none⟩:=by
  intro k u a r
  rcases w.2 with ⟨_,h0⟩|⟨n,l,i,C,_⟩
  ·grind
  ·rw [r] at i
   simp only [aL,aS,and_true] at i
   subst i
   rw [s.dis k _ C] at a;cases a
 rcases hp.2.2 with ⟨R,_⟩|⟨n,l,i,C,D,ha,T⟩
 ·exfalso
  have:=hp.2.1
  grind
 ·subst i
  let o':aD:=fun k=>if k=n then some (.cells (aZ l) e) else if A=some ⟨k,0,none⟩ then none else o k
  have O:o' n=some (.cells (aZ l) e):=gz0
  have ok:∀ k,k≠n->A≠some ⟨k,0,none⟩->o' k=o k:=fun k h1 G=>by grind
  let g2:aD:=fun k=>match o' k with|some _=>none|none=>h' k
  have X:∀ k u,o' k=some u->g2 k=none:=fun k u a=>by grind
  have gn:∀ k,o' k=none->g2 k=h' k:=fun k a=>by grind
  have F:∀ k u,k≠n->g' k=some u->h' k=some u:=fun k u h1 a=>by rw [D,B9 _ _ h1];exact a
  have N:∀ k u,o k=some u->A≠some ⟨k,0,none⟩->k≠n:=by
   rintro k u a G rfl
   have:=q k u (s.own k u a) G
   grind
  refine x _ c' h' g2 o' (fun k u a=>?_) ⟨fun k u a=>?_,fun k a=>(gn k a).symm,X⟩ ⟨hp.2.1,.inr ⟨n,l,rfl,O,ha,T⟩⟩ (fun k u a G=>?_)
  ·have W:o k=none:=by
    cases ho:o k with
    | none=>rfl
    | some y=>rw [s.dis k y ho] at a;cases a
   have r:=H k u a
   have e3:=q k u (s.le k u a) r
   grind
  ·by_cases j:k=n
   ·subst j
    rw [O] at a;cases a
    rw [D,C3]
   ·by_cases r:A=some ⟨k,0,none⟩
    ·grind
    ·rw [ok k j r] at a
     exact F k u j (q k u (s.own k u a) r)
  grind
end
structure Tb where
 bt:Nat
 bE:Nat
 bS:Nat
 rows:Nat
 cols:Nat
 cE:Nat
 cS:Nat
structure Tab (h g o:aD) (T:Tb) (M:Nat->Nat->Int) (S:Nat->Rat):Prop where
 sep:Sep h g o
 n1:T.bt≠T.bE
 n2:T.bt≠T.bS
 n3:T.bE≠T.bS
 head:∃ e,o T.bt=some (.cells #[I T.cols,.slice (some ⟨T.bE,0,none⟩) (T.rows*T.cols) T.cE,.slice (some ⟨T.bS,0,none⟩) T.rows T.cS] e)
 elems:∃ ws:List IV,RowB o T.bE ws/\ws.length=T.rows*T.cols/\∀ i j,i<T.rows->j<T.cols->∃ w,ws[i*T.cols+j]? = some w/\ZIr g w (M i j)
 scales:∃ ss:List QV,RowB o T.bS ss/\ss.length=T.rows/\Row RQr g ss T.rows S
 cE:T.rows*T.cols<=T.cE
 cS:T.rows<=T.cS
 small:T.rows<=10000/\T.cols<=10000
 pos:0<T.cols
def C35(M:Nat->Nat->Int)(i j:Nat)(z:Int):Nat->Nat->Int:=fun a b=>if a=i/\b=j then z else M a b
def R4{rows cols i j:Nat}(hi:i<rows)(hj:j<cols):i*cols+j<rows*cols:=by
 have:(i+1)*cols<=rows*cols:=aF _ hi
 grind
def B73{cols i j i' j':Nat}(hj:j<cols)(hj':j'<cols)(h:i*cols+j=i'*cols+j'):i=i'/\j=j':=by
 have a:(i*cols+j)/cols=i:=by rw [bN,cH o,bZ hj,bO]
 have b:(i'*cols+j')/cols=i':=by rw [bN,cH o,bZ hj',bO]
 grind
section
variable {h g o:aD} {T:Tb} {M:Nat->Nat->Int} {S:Nat->Rat} {K:VP} {m:Nat}
def Tab.next(t:Tab h g o T M S){h' g':aD}(s:Sep h' g' o)(l:g.le g'):Tab h' g' o T M S:=by
 refine ⟨s,t.n1,t.n2,t.n3,t.head,?_,?_,t.cE,t.cS,t.small,t.pos⟩
 ·obtain ⟨f,r,b,a⟩:=t.elems
  refine ⟨f,r,b,fun i j k c=>?_⟩
  obtain ⟨w,e,m⟩:=a i j k c
  exact ⟨w,e,Dn _ _ _ _ l m⟩
 ·obtain ⟨d,r,b,a⟩:=t.scales
  exact ⟨d,r,b,a.mono G2 l⟩
def Tab.congr(t:Tab h g o T M S){M':Nat->Nat->Int}{S':Nat->Rat}(hM:∀ i j,i<T.rows->j<T.cols->M i j=M' i j)(hS:∀ i,i<T.rows->S i=S' i):Tab h g o T M' S':=by
 refine ⟨t.sep,t.n1,t.n2,t.n3,t.head,?_,?_,t.cE,t.cS,t.small,t.pos⟩
 ·obtain ⟨d,r,b,a⟩:=t.elems
  grind
 ·obtain ⟨c,r,b,a⟩:=t.scales
  exact ⟨c,r,b,a.congr hS⟩
def Tab.c0(t:Tab h g o T M S):h.cell? (aC ⟨T.bt,0,none⟩ 0)=some (I T.cols):=by
 obtain ⟨e,a⟩:=t.head
 refine t.sep.cell ?_
 rw [D4];unfold Heap.cell?;grind
def Tab.c1(t:Tab h g o T M S):h.cell? (aC ⟨T.bt,0,none⟩ 1)=some (.slice (some ⟨T.bE,0,none⟩) (T.rows*T.cols) T.cE):=by
 obtain ⟨e,a⟩:=t.head
 refine t.sep.cell ?_
 rw [D4];unfold Heap.cell?;grind
def Tab.c2(t:Tab h g o T M S):h.cell? (aC ⟨T.bt,0,none⟩ 2)=some (.slice (some ⟨T.bS,0,none⟩) T.rows T.cS):=by
 obtain ⟨e,a⟩:=t.head
 refine t.sep.cell ?_
 rw [D4];unfold Heap.cell?;grind
def Tab.at(t:Tab h g o T M S){i j:Nat}(hi:i<T.rows)(hj:j<T.cols):∃ w:IV,ZIr g w (M i j)/\h.cell? (aC (aC ⟨T.bE,i*T.cols*2,none⟩ (j*2)) 0)=some (.bool w.s)/\h.cell? (aC (aC ⟨T.bE,i*T.cols*2,none⟩ (j*2)) 1)=some (.slice w.A w.n w.c):=by
 obtain ⟨k,r,m,d⟩:=t.elems
 obtain ⟨w,e,l⟩:=d i j hi hj
 have f:=R4 hi hj
 have a:k[i*T.cols+j]=w:=by
  grind
 have b:i*T.cols*2+j*2=(i*T.cols+j)*2:=by rw [bF]
 refine ⟨w,l,t.sep.cell ?_,t.sep.cell ?_⟩
 ·rw [D4,D4,b]
  exact r.cell (i:=i*T.cols+j) oo (j:=0) (v:=.bool w.s) (by rw [a];rfl)
 ·rw [D4,D4,b]
  exact r.cell (i:=i*T.cols+j) oo (j:=1) (v:=.slice w.A w.n w.c) (by rw [a];rfl)
def Tab.ato(t:Tab h g o T M S){i j:Nat}(hi:i<T.rows)(hj:j<T.cols):∃ w:IV,ZIr g w (M i j)/\o.cell? (aC (aC ⟨T.bE,i*T.cols*2,none⟩ (j*2)) 0)=some (.bool w.s)/\o.cell? (aC (aC ⟨T.bE,i*T.cols*2,none⟩ (j*2)) 1)=some (.slice w.A w.n w.c):=by
 obtain ⟨k,r,m,d⟩:=t.elems
 obtain ⟨w,e,l⟩:=d i j hi hj
 have f:=R4 hi hj
 have a:k[i*T.cols+j]=w:=by
  grind
 have b:i*T.cols*2+j*2=(i*T.cols+j)*2:=by rw [bF]
 refine ⟨w,l,?_,?_⟩
 ·rw [D4,D4,b]
  exact r.cell (i:=i*T.cols+j) oo (j:=0) (v:=.bool w.s) (by rw [a];rfl)
 ·rw [D4,D4,b]
  exact r.cell (i:=i*T.cols+j) oo (j:=1) (v:=.slice w.A w.n w.c) (by rw [a];rfl)
def Sep.le_le{h' g':aD}(s:Sep h g o)(s':Sep h' g' o)(l:g.le g'):h.le h':=fun k x e=>by
 cases ho:o k with
 | some y=>rw [s.own k y ho] at e;rw [s'.own k y ho];exact e
 | none=>rw [s.rest k ho] at e;rw [s'.rest k ho];exact l k x e
def Tab.sat(t:Tab h g o T M S){i:Nat}(hi:i<T.rows):∃ w:QV,RQ g w (S i)/\h.cell? (aC (aC ⟨T.bS,0,none⟩ (i*4)) 0)=some (.bool w.s)/\h.cell? (aC (aC ⟨T.bS,0,none⟩ (i*4)) 1)=some (.slice w.A w.n w.c)/\h.cell? (aC (aC ⟨T.bS,0,none⟩ (i*4)) 2)=some (.bool w.s2)/\h.cell? (aC (aC ⟨T.bS,0,none⟩ (i*4)) 3)=some (.slice w.A2 w.n2 w.c2):=by
 obtain ⟨l,r,f,a⟩:=t.scales
 obtain ⟨w,e,b⟩:=a i hi
 have cell:∀ k v,(enc w)[k]? = some v->h.cell? (aC (aC ⟨T.bS,0,none⟩ (i*4)) k)=some v:=by
  intro k v d
  refine t.sep.cell ?_
  rw [D4,D4,aJ]
  exact r.cell (i:=i) oo (j:=k) gz0
 exact ⟨w,b,cell 0 _ rfl,cell 1 _ rfl,cell 2 _ rfl,cell 3 _ rfl⟩
def Tab.store(t:Tab h g o T M S){i j:Nat}(hi:i<T.rows)(hj:j<T.cols){w:IV}{z:Int}(hz:ZIr g w z){K:Unit->aD->Prop}
 (x:∀ h' o',Tab h' g o' T (C35 M i j z) S->(∀ k,k≠T.bE->o' k=o k)->K () h'):wpH prog (aH 219 (.pointer (some (aC ⟨T.bE,i*T.cols*2,none⟩ (j*2)))) w.v) K h:=by
 obtain ⟨L,r,N,B⟩:=t.elems
 have p:=R4 hi hj
 have G:i*T.cols*2+j*2=(i*T.cols+j)*2:=by rw [bF]
 rw [D4,G]
 refine Sep.store (E:=inferInstanceAs (Enc IV)) Rk (v:=w.v) (y:=w) rfl t.sep r (i:=i*T.cols+j) oo rfl ?_
 intro h' o' H f n q
 refine x h' o' ⟨n,t.n1,t.n2,t.n3,?_,⟨_,q,gz0,fun a b l m=>?_⟩,?_,t.cE,t.cS,t.small,t.pos⟩ (fun k A=>by rw [f,B9 _ _ A])
 ·obtain ⟨e,F⟩:=t.head
  exact ⟨e,by rw [f,B9 _ _ t.n1];exact F⟩
 ·unfold C35
  by_cases e:a=i/\b=j
  ·grind
  ·obtain ⟨u,D,O⟩:=B a b l m
   refine ⟨u,?_,gz0⟩
   rw [List.getElem?_set_ne (fun x=>e (by have:=B73 hj m x;omega))]
   exact D
 ·obtain ⟨s,C,d,c⟩:=t.scales
  exact ⟨s,by rw [f];exact C.other t.n3.symm _,d,c⟩
def Tab.sstore(t:Tab h g o T M S){i:Nat}(hi:i<T.rows){w:QV}{q:Rat}(hz:RQ g w q){K:Unit->aD->Prop}
 (x:∀ h' o',Tab h' g o' T M (fun a=>if a=i then q else S a)->(∀ k,k≠T.bS->o' k=o k)->K () h'):wpH prog (aH 244 (.pointer (some (aC ⟨T.bS,0,none⟩ (i*4)))) w.v) K h:=by
 obtain ⟨z,r,u,j⟩:=t.scales
 rw [D4,aJ]
 refine Sep.store (E:=inferInstanceAs (Enc QV)) Fi (v:=w.v) (y:=w) rfl t.sep r (i:=i) oo rfl ?_
 intro h' o' A c l n
 refine x h' o' ⟨l,t.n1,t.n2,t.n3,?_,?_,⟨_,n,gz0,Row.upd j oo hz⟩,t.cE,t.cS,t.small,t.pos⟩ (fun k m=>by rw [c,B9 _ _ m])
 ·obtain ⟨e,p⟩:=t.head
  exact ⟨e,by rw [c,B9 _ _ t.n2];exact p⟩
 ·obtain ⟨s,f,b,d⟩:=t.elems
  exact ⟨s,by rw [c];exact f.other t.n3 _,b,d⟩
def J4{n:Nat}(h:n<=9223372036854775807):C4 (n:Int)=(n:Int):=C1 oo oo
def W8(t:Tab h g o T M S){i:Nat}(hi:i<T.rows)(hK:K (.slice (some ⟨T.bE,i*T.cols*2,none⟩) T.cols (T.cE-i*T.cols)) h):aI prog 196 #[.pointer (some ⟨T.bt,0,none⟩),I (i:Int)] h K:=by
 refine (fnk func196) ?_
 have a:=t.small
 have l:=t.pos
 have j:(i+1)*T.cols<=T.rows*T.cols:=aF _ hi
 have f:T.rows*T.cols<=10000*10000:=cL a.1 a.2
 have k:=t.cE
 have d:(i+1)*T.cols=i*T.cols+T.cols:=gz0
 have c:C4 ((i:Int)*(T.cols:Int))=((i*T.cols:Nat):Int):=by exact J4 oo
 have b:C4 ((i:Int)+1)=((i+1:Nat):Int):=C1 oo oo
 have e:C4 (C4 ((i:Int)+1)*(T.cols:Int))=(((i+1)*T.cols:Nat):Int):=by rw [b,<- Int.natCast_mul];exact J4 oo
 refine ⟨_,rfl,_,_,_,t.c1,_,rfl,_,t.c0,_,rfl,_,t.c0,?_⟩
 rw [c,e]
 refine ⟨⟨oo,oo⟩,⟨oo,oo⟩,?_⟩
 simp only [bX]
 rw [Nf oo,D4,aJ,d,Nat.add_sub_cancel_left]
 exact hK
def A1v(t:Tab h g o T M S){start col:Nat}(hs:start<=T.rows)(hc:col<T.cols)
 (hK1:fnd (fun i=>decide (M i col≠0)) (T.rows-start) start<T.rows->K (.tuple #[I ((fnd (fun i=>decide (M i col≠0)) (T.rows-start) start:Nat):Int),.bool true]) h)
 (hK0:fnd (fun i=>decide (M i col≠0)) (T.rows-start) start=T.rows->K (.tuple #[I 0,.bool false]) h):aI prog 204 #[.pointer (some ⟨T.bt,0,none⟩),I (start:Int),I (col:Int)] h K:=by
 refine (fnk func204 [(2,[8],[],[I 0])]) ?_
 refine ⟨fun L d=>∃ k:Nat,k<=T.rows/\L=[I k]/\d=h/\start<=k/\∀ j,start<=j->j<k->decide (M j col≠0)=false,fun L _=>T.rows-(iAt L 0).toNat,⟨start,hs,rfl,rfl,aE _,fun j c f=>oo⟩,?_⟩
 rintro i d ⟨k,s,u,rfl,b,l⟩
 obtain rfl:i=(k:Int):=gz0
 refine ⟨_,rfl,_,_,_,t.c2,C0 (fun p=>?_) (fun m=>?_)⟩
 ·have a:k<T.rows:=oo
  refine W8 t a ⟨_,_,_,rfl,_,rfl,oo,oo,?_⟩
  obtain ⟨w,n,q,r⟩:=t.at a hc
  refine ⟨_,_,_,_,q,r,F6 (n.mono t.sep.le) ⟨_,rfl,Br.not (C0 (fun e=>?_) (fun e=>?_))⟩⟩
  ·rw [show C4 ((k:Int)+1)=((k+1:Nat):Int) by have:=t.small;rw [C1]<;>omega]
   refine ⟨⟨k+1,oo,rfl,rfl,oo,fun j c f=>?_⟩,by simp only [R9];omega⟩
   grind
  ·have:fnd (fun i=>decide (M i col≠0)) (T.rows-start) start=k:=We _ b oo l (fun _=>gz0)
   grind
 ·have:fnd (fun i=>decide (M i col≠0)) (T.rows-start) start=T.rows:=We _ hs oo (fun j c f=>l j c oo) (fun y=>oo)
  grind
def A8s(t:Tab h g o T M S){i k:Nat}(hi:i<T.rows)(hk:k<T.rows)(hik:i≠k)
 (hK:∀ h' o',Tab h' g o' T (fun a=>M (xch i k a)) (fun a=>S (xch i k a))->(∀ b,b≠T.bE->b≠T.bS->o' b=o b)->K (.tuple #[]) h'):aI prog 205 #[.pointer (some ⟨T.bt,0,none⟩),I (i:Int),I (k:Int)] h K:=by
 refine (fnk func205 [(2,[17],[],[I 0])]) ?_
 refine W8 t hi ⟨_,_,_,rfl,W8 t hk ⟨_,_,_,rfl,?_⟩⟩
 refine ⟨fun L C=>∃ (c:Nat) (r:aD),c<=T.cols/\L=[I c]/\Tab C g r T (fun a b=>if b<c then M (xch i k a) b else M a b) S/\∀ b,b≠T.bE->r b=o b,fun L _=>T.cols-(iAt L 0).toNat,⟨0,o,oo,rfl,t.congr (fun a b _ _=>oo) (fun _ _=>rfl),fun _ _=>rfl⟩,?_⟩
 rintro z C ⟨c,r,hc,eL,t1,V⟩
 obtain rfl:z=(c:Int):=gz0
 refine C0 (fun H=>?_) (fun E=>?_)
 ·have d:c<T.cols:=oo
  obtain ⟨l,f,s,q⟩:=t1.at hk d
  obtain ⟨B,e,j,y⟩:=t1.at hi d
  rw [iN (bL c)] at f e
  refine ⟨_,rfl,oo,oo,_,_,_,_,s,q,_,rfl,oo,oo,_,_,_,_,j,y,_,rfl,oo,oo,?_⟩
  refine t1.store hi d (w:=l) f ?_
  intro N Q m A
  refine ⟨_,rfl,oo,oo,?_⟩
  refine m.store hk d (w:=B) e ?_
  intro D u n p
  rw [show C4 ((c:Int)+1)=((c+1:Nat):Int) by have:=t.small;rw [C1]<;>omega]
  refine ⟨⟨c+1,u,oo,rfl,n.congr (fun a b _ _=>?_) (fun _ _=>rfl),fun b O=>gz0⟩,by simp only [R9];omega⟩
  show (if a=k/\b=c then M i c else if a=i/\b=c then M k c else if b<c then M (xch i k a) b else M a b)=if b<c+1 then M (xch i k a) b else M a b
  unfold xch
  grind
 ·obtain ⟨l,f,s,q,F,G⟩:=t1.sat hk
  obtain ⟨B,e,j,y,R,X⟩:=t1.sat hi
  refine ⟨_,rfl,_,_,_,t1.c2,_,rfl,_,_,_,t1.c2,_,rfl,_,_,_,t1.c2,_,rfl,oo,oo,_,_,_,_,_,_,_,_,s,q,F,G,_,rfl,_,_,_,t1.c2,_,rfl,oo,oo,_,_,_,_,_,_,_,_,j,y,R,X,_,rfl,oo,oo,?_⟩
  refine t1.sstore hi (w:=l) f ?_
  intro N Q m A
  refine ⟨_,rfl,oo,oo,?_⟩
  refine m.sstore hk (w:=B) e ?_
  intro D u n p
  refine hK D u (n.congr (fun a b _ O=>oo) (fun a _=>?_)) (fun b aa W=>gz0)
  show (if a=k then S i else if a=i then S k else S a)=S (xch i k a)
  unfold xch
  grind
end
def Pc{P:aU}{t:aK}{v:aN}{K:VP}{h:aD}(x:∀ b,h b=none->K (.pointer (some ⟨b,0,none⟩)) (h.put b (.cells v.cells t))):wpH P (Instr.box t v) K h:=by
 exact x
def A9p{m k:Nat}(hm:1<=m)(hk:k<4611686018427387904):(k:Int)*2^(2*m)<b64^m:=by
 have e:b64^m=(2:Int)^(2*m)*2^(62*m):=by
  have:b64=(2:Int)^64:=dc
  rw [this,<- Int.pow_mul,<- Int.pow_add]
  grind
 have a:(2:Int)^62<=2^(62*m):=D8 dc o
 have c:(k:Int)<2^62:=by
  omega
 have b:(0:Int)<2^(2*m):=bK dc
 rw [e,Int.mul_comm]
 exact Int.mul_lt_mul_of_pos_left (Int.lt_of_lt_of_le c a) b
def A3q{m:Nat}{x y:Int}(hx:ZB m x)(hy:ZB m y):((x*y).natAbs:Int)<=2^(2*m):=by
 have:=hx.mul hy
 unfold ZB at this
 grind
section
variable {h g o:aD} {T:Tb} {M:Nat->Nat->Int} {S:Nat->Rat} {K:VP} {m:Nat}
def A51:(prog.info? 345).map (·.zero)=some (some (.agg #[.slice none 0 0,.slice none 0 0])):=by kernel_rfl
def Wj(t:Tab h g o T M S){i p c:Nat}{wb:IV}{d:Int}(hi:i<T.rows)(hp':p<T.rows)(hip:i≠p)(hc:c<T.cols)(ib:ZIr g wb d)(hd:d≠0)(hm1:1<=m)(hm:2*m+1<=100000000)(hMi:∀ b,b<T.cols->ZB m (M i b))(hMp:∀ b,b<T.cols->ZB m (M p b))(hdb:ZB m d)
 (hK:∀ h' g' o',g.le g'->Tab h' g' o' T (fun a b=>if a=i then (M p c*M i b-M i c*M p b).tdiv d else M a b) S->(∀ b,b≠T.bE->o' b=o b)->K (.tuple #[]) h'):aI prog 206 #[.pointer (some ⟨T.bt,0,none⟩),I (i:Int),I (p:Int),I (c:Int),wb.v] h K:=by
 refine (fnk func206 [(4,[28],[],[I 0])] (cs:=[(7,[],[],[])]) (os:=[(10,[0,1,3,2,4,5,6])]) (own:=[9,12,14]) (wr:=[255,256])) ?_
 refine W8 t hi ⟨_,_,_,rfl,W8 t hp' ⟨_,_,_,rfl,?_⟩⟩
 obtain ⟨wf,zf,f0,f1⟩:=t.at hi hc
 refine ⟨_,rfl,oo,oo,_,_,_,_,f0,f1,?_⟩
 refine ⟨fun L R=>∃ (k:Nat) (j l:aD),k<=T.cols/\L=[I k]/\g.le j/\Tab R j l T (fun a b=>if a=i/\b<k then (M p c*M i b-M i c*M p b).tdiv d else M a b) S/\∀ b,b≠T.bE->l b=o b,fun L _=>T.cols-(iAt L 0).toNat,⟨0,g,o,oo,rfl,B7 _,t.congr (fun a b _ _=>oo) (fun _ _=>rfl),fun _ _=>rfl⟩,?_⟩
 rintro z V ⟨k,j,l,hk,eL,E,t1,N⟩
 obtain rfl:z=(k:Int):=gz0
 have ew:C4 ((k:Int)+1)=((k+1:Nat):Int):=by have:=t.small;rw [C1]<;>omega
 refine C0 (fun ad=>?_) (fun ac=>?_)
 ·have f:k<T.cols:=oo
  obtain ⟨w1,Q,d0,d1⟩:=t1.at hi f
  rw [iN oo] at Q
  have same:(M p c*M i k-M i c*M p k).tdiv d=M i k->(∃ (k':Nat) (j l:aD),k'<=T.cols/\[I (C4 ((k:Int)+1))]=[I k']/\g.le j/\Tab V j l T (fun a b=>if a=i/\b<k' then (M p c*M i b-M i c*M p b).tdiv d else M a b) S/\∀ b,b≠T.bE->l b=o b)/\T.cols-(iAt [I (C4 ((k:Int)+1))] 0).toNat<T.cols-(iAt [I (k:Int)] 0).toNat:=by
   intro e
   rw [ew]
   refine ⟨⟨k+1,j,l,oo,rfl,E,t1.congr (fun a b _ _=>?_) (fun _ _=>rfl),N⟩,by simp only [R9];omega⟩
   grind
  refine ⟨_,rfl,oo,oo,_,_,_,_,d0,d1,fun L R=>R=V,?_,?_⟩
  ·refine F6 (Q.mono t1.sep.le) ⟨_,rfl,C0 (fun e1=>?_) (fun _=>rfl)⟩
   refine F6 (zf.mono (B0 E t1.sep.le)) ⟨_,rfl,C0 (fun e2=>same (by simp_all)) (fun _=>?_)⟩
   obtain ⟨w2,G,c0,c1⟩:=t1.at hp' f
   refine ⟨_,rfl,oo,oo,_,_,_,_,c0,c1,F6 (G.mono t1.sep.le) ⟨_,rfl,C0 (fun e3=>same (by simp_all)) (fun _=>rfl)⟩⟩
  ·rintro R rfl
   refine Dd A51 ?_
   intro bs q
   have aa:j bs=none:=by
    cases hx:j bs with
    | none=>rfl
    | some y=>rw [t1.sep.le _ _ hx] at q;cases q
   have W:=t1.sep.vis q (.cells #[.slice none 0 0,.slice none 0 0] 345)
   have Z0:SumS (j.put bs (.cells #[.slice none 0 0,.slice none 0 0] 345)) j bs 345 200000001 0 0:=SumS.zero aa
   obtain ⟨w3,z3,a0,a1⟩:=t1.ato hp' hc
   obtain ⟨w2,G,c0,c1⟩:=t1.ato hp' f
   rw [iN oo] at G z3
   have O:∀ {gg:aD} {w:IV} {x:Int},ZIr gg w x->ZB m x->w.n<=100000000:=fun i b=>ZI.len i b oo
   have s:=hMp c hc
   have r:=hMi k f
   have B:=hMi c hc
   have u:=hMp k f
   have q1:=A3q s r
   have q2:=A3q B u
   have q0:=A9p (m:=m) (k:=2) hm1 oo
   have l3:=O z3 s
   have l1:=O Q r
   have lf:=O zf B
   have l2:=O G u
   refine ⟨_,rfl,_,rfl,oo,oo,_,_,_,_,W.cell a0,W.cell a1,?_⟩
   refine W.call (Bg Z0 z3 Q oo oo (N1:=m) oo oo ?_)
   intro G3 g3 C Z3 H3 s3
   refine ⟨rfl,_,rfl,oo,oo,_,_,_,_,s3.cell c0,s3.cell c1,?_⟩
   refine s3.call (Qe Z3 (zf.mono (B0 E C)) (G.mono C) oo oo (N1:=m) oo oo ?_)
   intro G4 g4 X Z4 H4 s4
   refine ⟨rfl,s4.call (Lb Z4 oo ?_)⟩
   intro sv Av nv cv G5 F z5 H5 s5
   rw [Int.zero_add] at z5
   refine ⟨_,_,_,_,rfl,s4.le_le s5 F,?_⟩
   have D:j.le G5:=B0 C (B0 X (B0 Z4.le F))
   have bz:ZB (2*m+1) (M p c*M i k-M i c*M p k):=((s.mul r).sub (B.mul u)).mono oo
   refine s5.call (S1 z5 (ib.mono (B0 E D)) bz (hdb.mono oo) oo hd ?_)
   intro s6 A6 n6 c6 G6 A z6 H6 H
   refine ⟨_,_,_,_,rfl,s5.le_le H A,_,rfl,oo,oo,?_⟩
   have t6:=t1.next H (B0 D A)
   refine t6.store hi f (w:=⟨s6,A6,n6,c6⟩) z6 ?_
   intro H7 o7 t7 ae
   rw [ew]
   refine ⟨⟨k+1,G6,o7,oo,rfl,B0 E (B0 D A),t7.congr (fun a b _ _=>?_) (fun _ _=>rfl),fun b hb=>gz0⟩,by simp only [R9];omega⟩
   show (if a=i/\b=k then (M p c*M i k-M i c*M p k).tdiv d else if a=i/\b<k then (M p c*M i b-M i c*M p b).tdiv d else M a b)=_
   grind
 ·exact hK V j l E (t1.congr (fun a b _ hb=>by
   omega) (fun _ _=>rfl)) N
def B2t(n:Nat)(s:PS)(h:s.cs=[]):∀ c,(Ha n s c).cs.length<=c:=by
 intro c
 induction c with
 | zero=>show s.cs.length<=0;grind
 | succ c ih=>
  show (Di n c (Ha n s c)).cs.length<=c+1
  unfold Di
  grind
def A0j(n:Nat)(s:PS)(h:s.last≠0)(hs:s.sgn=1\/s.sgn= -1)(hl:s.cs.length<=n):∀ c,(Ha n s c).last≠0/\((Ha n s c).sgn=1\/(Ha n s c).sgn= -1)/\(Ha n s c).cs.length<=n:=by
 intro c
 induction c with
 | zero=>exact ⟨h,hs,hl⟩
 | succ c ih=>
  obtain ⟨d,f,b⟩:=ih
  show (Di n c (Ha n s c)).last≠0/\((Di n c (Ha n s c)).sgn=1\/(Di n c (Ha n s c)).sgn= -1)/\(Di n c (Ha n s c)).cs.length<=n
  have e:=A3e n c (Ha n s c) b
  unfold Di
  by_cases a:Rp n c (Ha n s c)<n
  ·rw [iP a]
   have:=Yp (fun i=>decide ((Ha n s c).M i c≠0)) (n-(Ha n s c).cs.length) (Ha n s c).cs.length (by unfold Rp at a;omega)
   refine ⟨by simpa [Rp] using this,?_,?_⟩
   ·grind
   grind
  grind
def K6{α:Type}[E:Enc α]{P:aU}{t e ty:aK}{z:aN}{bytes:Nat}(st:bV P t e z E.default.size bytes){h g o:aD}{A:Option aG}{c n:Nat}{xs:List α}(s:Sep h g o)(w:OwnSl o e A c xs)(hxn:n=xs.length){v:aN}{y:α}(hv:v.cells=(enc y).toArray)(hsz:E.default.size<=1000)
 (hb:(2*(xs.length+1)+192)*bytes<=281474976710656) (hn:xs.length+1<=9223372036854775807) {K:Option aG->Nat->Nat->aD->Prop}
 (x:∀ A' c' h' g' o',g.le g'->Sep h' g' o'->OwnSl o' e A' c' (xs++[y])->(∀ k u,o k=some u->A≠some ⟨k,0,none⟩->o' k=some u/\A'≠some ⟨k,0,none⟩)->K A' (xs.length+1) c' h'):
 wpH P (aO t 1 #[(0,v)]) (fun v' hp=>∃ (B:Option aG) (m d:Nat),v'= .slice B m d/\wpH P (aM #[t,t] ty #[.slice A n c,.slice B m d]) (fun v1 hp1=>∃ (A':Option aG) (n' c':Nat),v1= .slice A' n' c'/\K A' n' c' hp1) hp) h:=by
 refine Ig _ (OwnSl.push (ty:=ty) st s w hv hsz hb hn (K1:=fun _=>True) (K:=K) (fun _ _=>trivial) x) ?_
 grind
def Tab.own(t:Tab h g o T M S):(∃ x,o T.bt=some x)/\(∃ x,o T.bE=some x)/\∃ x,o T.bS=some x:=by
 obtain ⟨e,b⟩:=t.head
 obtain ⟨k,⟨a,j,f⟩,_⟩:=t.elems
 obtain ⟨d,⟨i,l,c⟩,_⟩:=t.scales
 grind
def Tab.keep(t:Tab h g o T M S){h' g' o':aD}(s:Sep h' g' o')(l:g.le g')(hk:∀ k x,o k=some x->k=T.bt\/k=T.bE\/k=T.bS->o' k=some x):Tab h' g' o' T M S:=by
 refine ⟨s,t.n1,t.n2,t.n3,?_,?_,?_,t.cE,t.cS,t.small,t.pos⟩
 ·obtain ⟨e,q⟩:=t.head
  grind
 ·obtain ⟨m,⟨e,ex,c⟩,b,a⟩:=t.elems
  refine ⟨m,⟨e,ex,hk _ _ c (.inr (.inl rfl))⟩,b,fun i j n d=>?_⟩
  obtain ⟨w,e,p⟩:=a i j n d
  exact ⟨w,e,Dn _ _ _ _ l p⟩
 ·obtain ⟨f,⟨e,ex,c⟩,b,a⟩:=t.scales
  exact ⟨f,⟨e,ex,hk _ _ c (.inr (.inr rfl))⟩,b,a.mono G2 l⟩
abbrev zs(l:List Nat):List Int:=l.map fun (n:Nat)=>(n:Int)
def B4l(T:Tb)(A:Option aG):Prop:=A≠some ⟨T.bt,0,none⟩/\A≠some ⟨T.bE,0,none⟩/\A≠some ⟨T.bS,0,none⟩
def A0q(t:Tab h g o T M S){c l nq:Nat}(hc:c<=T.cols)(hm1:1<=m)(hnq:∀ k,k<=c->(Ha T.rows ⟨M,S,[],1,1⟩ k).cs.length<=nq)(hm:2*(3^nq*m)+1<=100000000)(hz:ZbP T.rows T.cols m l ⟨M,S,[],1,1⟩)
 (hK:∀ h' g' o' A cap w,g.le g'->Tab h' g' o' T (Ha T.rows ⟨M,S,[],1,1⟩ c).M (Ha T.rows ⟨M,S,[],1,1⟩ c).S->OwnSl o' 3 A cap (zs (Ha T.rows ⟨M,S,[],1,1⟩ c).cs)->B4l T A->(∀ k x,o k=some x->k≠T.bE->k≠T.bS->o' k=some x/\A≠some ⟨k,0,none⟩)->ZIr g' w (Ha T.rows ⟨M,S,[],1,1⟩ c).last->
  K (.tuple #[.slice A (Ha T.rows ⟨M,S,[],1,1⟩ c).cs.length cap,w.v,I (Ha T.rows ⟨M,S,[],1,1⟩ c).sgn]) h'):aI prog 152 #[.pointer (some ⟨T.bt,0,none⟩),I (c:Int)] h K:=by
 refine (fnk func152 [(4,[7,9,17],[(8,2)],[.slice none 0 0,I 0,I 0,.bool false,.slice none 0 0]),(13,[45],[],[I 0])] (cs:=[(12,[9],[],[I 0])]) (own:=[5,8]) (wr:=[205,206])) ?_
 have ay:=t.small
 refine t.sep.call (Dy oo oo ?_)
 intro s1 A1 n1 c1 g1 l1 i1 h1 an
 have t1:=t.next an l1
 refine ⟨_,_,_,_,rfl,fun L hp=>∃ (k:Nat) (g' o':aD) (A:Option aG) (cap:Nat) (w:IV),k<=c/\L=[.slice A (Ha T.rows ⟨M,S,[],1,1⟩ k).cs.length cap,I (Ha T.rows ⟨M,S,[],1,1⟩ k).sgn,I k,.bool w.s,.slice w.A w.n w.c]/\g.le g'/\Tab hp g' o' T (Ha T.rows ⟨M,S,[],1,1⟩ k).M (Ha T.rows ⟨M,S,[],1,1⟩ k).S/\OwnSl o' 3 A cap (zs (Ha T.rows ⟨M,S,[],1,1⟩ k).cs)/\B4l T A/\(∀ k x,o k=some x->k≠T.bE->k≠T.bS->o' k=some x/\A≠some ⟨k,0,none⟩)/\ZIr g' w (Ha T.rows ⟨M,S,[],1,1⟩ k).last,
  fun L _=>c-(iAt L 2).toNat,⟨0,g1,o,none,0,⟨s1,A1,n1,c1⟩,oo,rfl,l1,t1,(OwnSl.nil:OwnSl o 3 none 0 ([]:List Int)),⟨by simp,by simp,by simp⟩,fun k x e _ _=>⟨e,by simp⟩,i1⟩,?_⟩
 rintro pA pn pc av z ls lA ln lc hp ⟨k,g2,o2,A,cap,w,hk,eL,lg,t2,ow,u,ko,iw⟩
 obtain ⟨⟨rfl,rfl,rfl⟩,rfl,rfl,rfl,rfl,rfl,rfl⟩:=eL
 have E:=A0j T.rows ⟨M,S,[],1,1⟩ (show (1:Int)≠0 from dc) (.inl rfl) (aP _) k
 have D:=hz.run hm1 k oo
 refine C0 (fun a0=>?_) (fun a5=>?_)
 ·have G:k<T.cols:=oo
  have ew:C4 ((k:Int)+1)=((k+1:Nat):Int):=by rw [C1]<;>omega
  have aj:Ha T.rows ⟨M,S,[],1,1⟩ (k+1)=Di T.rows k (Ha T.rows ⟨M,S,[],1,1⟩ k):=rfl
  have aw:3^(Ha T.rows ⟨M,S,[],1,1⟩ k).cs.length*m<=3^nq*m:=aF _ (bC dc (hnq k oo))
  have R:=A5e (Ha T.rows ⟨M,S,[],1,1⟩ k).cs.length m hm1
  generalize hst0:Ha T.rows ⟨M,S,[],1,1⟩ k=st at *
  have X:fnd (fun i=>decide (st.M i k≠0)) (T.rows-st.cs.length) st.cs.length=Rp T.rows k st:=rfl
  have a3:=A3e T.rows k st E.2.2
  refine A1v t2 E.2.2 G (fun V=>?_) (fun V=>?_)
  ·rw [X] at V ⊢
   have q:Di T.rows k st={ M:=clr (fun i=>st.M (xch st.cs.length (Rp T.rows k st) i)) st.cs.length k st.last,S:=fun i=>st.S (xch st.cs.length (Rp T.rows k st) i),cs:=st.cs++[k],last:=st.M (Rp T.rows k st) k,sgn:=if Rp T.rows k st=st.cs.length then st.sgn else-st.sgn }:=by unfold Di;grind
   generalize hr:Rp T.rows k st=r at *
   have p:st.cs.length<T.rows:=oo
   refine ⟨_,_,rfl,fun L hq=>∃ (g3 B:aD),L=[I (if r=st.cs.length then st.sgn else-st.sgn)]/\g2.le g3/\Tab hq g3 B T (fun i=>st.M (xch st.cs.length r i)) (fun i=>st.S (xch st.cs.length r i))/\∀ b,b≠T.bE->b≠T.bS->B b=o2 b,?_,?_⟩
   ·refine D9 (fun af=>?_) (fun al=>?_)
    ·have d:r≠st.cs.length:=oo
     refine A8s t2 p V (fun e=>d e.symm) ?_
     intro h3 B t3 aa
     refine ⟨rfl,g2,B,?_,B7 _,t3,aa⟩
     rw [iN d]
     have:C4 (0-st.sgn)= - st.sgn:=by rw [C1]<;>omega
     rw [this]
    ·refine ⟨g2,o2,gz0,B7 _,t2.congr (fun i j _ _=>?_) (fun i _=>?_),fun _ _ _=>rfl⟩
     ·unfold xch;grind
     ·unfold xch;grind
   ·rintro aq h4 ⟨g3,B,a1,l3,t3,aa⟩
    obtain rfl:aq=if r=st.cs.length then st.sgn else-st.sgn:=gz0
    refine ⟨_,rfl,_,_,_,t3.c2,?_⟩
    have xk:xch st.cs.length r st.cs.length=r:=If _ _
    have ak:∀ i,i<T.rows->xch st.cs.length r i<T.rows:=fun i hi=>Gc p V hi
    refine ⟨fun L hq=>∃ (i:Nat) (O H:aD),i<=T.rows/\L=[I i]/\g3.le O/\Tab hq O H T (fun a b=>if a<i/\a≠st.cs.length then clr (fun i=>st.M (xch st.cs.length r i)) st.cs.length k st.last a b else st.M (xch st.cs.length r a) b) (fun i=>st.S (xch st.cs.length r i))/\∀ b,b≠T.bE->H b=B b,fun L _=>T.rows-(iAt L 0).toNat,⟨0,g3,B,oo,rfl,B7 _,t3.congr (fun a b _ _=>oo) (fun _ _=>rfl),fun _ _=>rfl⟩,?_⟩
    rintro zi h5 ⟨i,O,H,hi,a4,l4,t4,ao⟩
    obtain rfl:zi=(i:Int):=gz0
    have ad:C4 ((i:Int)+1)=((i+1:Nat):Int):=by rw [C1]<;>omega
    refine C0 (fun au=>?_) (fun ax=>?_)
    ·have ac:i<T.rows:=oo
     refine D9 (fun af=>?_) (fun al=>?_)
     ·have d:i≠st.cs.length:=oo
      refine Wj (m:=3^st.cs.length*m) t4 ac p d G (Dn _ _ _ _ (B0 l3 l4) iw) E.1 R oo (fun b N=>?_) (fun b N=>?_) D.last ?_
      ·rw [iN oo];exact D.M _ b (ak i ac) N
      ·rw [iN oo,xk];exact D.M r b V N
      intro h6 g6 o6 l6 t6 a2
      refine ⟨rfl,?_⟩
      rw [ad]
      refine ⟨⟨i+1,g6,o6,oo,rfl,B0 l4 l6,t6.congr (fun a b _ _=>?_) (fun _ _=>rfl),fun b N=>gz0⟩,by simp only [R9];omega⟩
      show (if a=i then ((if st.cs.length<i/\st.cs.length≠st.cs.length then _ else st.M (xch st.cs.length r st.cs.length) k)*(if i<i/\i≠st.cs.length then _ else st.M (xch st.cs.length r i) b)-(if i<i/\i≠st.cs.length then _ else st.M (xch st.cs.length r i) k)*(if st.cs.length<i/\st.cs.length≠st.cs.length then _ else st.M (xch st.cs.length r st.cs.length) b)).tdiv st.last else if a<i/\a≠st.cs.length then clr (fun i=>st.M (xch st.cs.length r i)) st.cs.length k st.last a b else st.M (xch st.cs.length r a) b)=if a<i+1/\a≠st.cs.length then clr (fun i=>st.M (xch st.cs.length r i)) st.cs.length k st.last a b else st.M (xch st.cs.length r a) b
      by_cases ea:a=i
      ·unfold clr
       grind
      omega
     ·rw [ad]
      refine ⟨⟨i+1,O,H,oo,rfl,l4,t4.congr (fun a b _ _=>?_) (fun _ _=>rfl),ao⟩,by simp only [R9];omega⟩
      omega
    ·have Q:Tab h5 O H T (clr (fun i=>st.M (xch st.cs.length r i)) st.cs.length k st.last) (fun i=>st.S (xch st.cs.length r i)):=t4.congr (fun a b ha _=>by
      by_cases h7:a=st.cs.length
      ·unfold clr;grind
      omega) (fun _ _=>rfl)
     refine W8 Q p ⟨_,_,_,rfl,_,rfl,oo,oo,?_⟩
     obtain ⟨wl,zl,d0,d1⟩:=Q.at p G
     have ah:ZIr O wl (st.M r k):=by
      have:clr (fun i=>st.M (xch st.cs.length r i)) st.cs.length k st.last st.cs.length k=st.M r k:=by unfold clr;grind
      grind
     refine ⟨_,_,_,_,d0,d1,?_⟩
     have C:∀ b,b≠T.bE->b≠T.bS->H b=o2 b:=fun b h1 h2=>by grind
     have am:OwnSl H 3 pA pc (zs st.cs):=ow.keep fun b x hA N=>by
      rw [C b (fun e=>u.2.1 gz0) (fun e=>u.2.2 gz0)];exact N
     have W:(zs st.cs).length=st.cs.length:=by simp
     refine K6 (ty:=22) Iy Q.sep am (by simp) (y:=((k:Nat):Int)) rfl dc oo oo ?_
     intro A' c' h' g' o' F s' az f
     obtain ⟨⟨x1,ar⟩,⟨x2,ae⟩,⟨x3,ai⟩⟩:=Q.own
     have t':=Q.keep s' F (fun kk x e ag=>by
      rcases ag with rfl|rfl|rfl
      ·exact (f _ _ e u.1).1
      ·exact (f _ _ e u.2.1).1
      ·exact (f _ _ e u.2.2).1)
     rw [W,ew]
     refine ⟨⟨k+1,g',o',A',c',wl,oo,?_,B0 lg (B0 l3 (B0 l4 F)),?_⟩,?_⟩
     ·grind
     ·rw [aj,q]
      refine ⟨t',gz0,⟨(f _ _ ar u.1).2,(f _ _ ae u.2.1).2,(f _ _ ai u.2.2).2⟩,fun kk x e h1 h2=>?_,Dn _ _ _ _ F ah⟩
      grind
     ·show c-((k+1:Nat):Int).toNat<c-((k:Nat):Int).toNat
      omega
  ·have q:Di T.rows k st=st:=by unfold Di;grind
   refine ⟨_,_,rfl,?_⟩
   rw [ew]
   refine ⟨⟨k+1,g2,o2,pA,pc,w,oo,gz0,lg,?_⟩,?_⟩
   ·grind
   ·show c-((k+1:Nat):Int).toNat<c-((k:Nat):Int).toNat
    omega
 grind
end
section
variable {h:aD} {K:VP} {A B:Option aG} {n c n' c' m:Nat} {s s':Bool} {x y:Int}
def B5v:RQ h ⟨false,none,0,0,false,none,0,0⟩ 0:=⟨ZI.zero,ZI.zero⟩
def A55{z:Int}(i:ZI h s A n c z):RQ h ⟨s,A,n,c,false,none,0,0⟩ (z:Rat):=⟨by assumption,by simpa using ZI.zero⟩
def O5(gl:Gtz h)(ix:ZI h s A n c x)(iy:ZI h s' B n' c' y)(hx:ZB m x)(hy:ZB m y)(hm:m<=6400000000)(hK:∀ w h',h.le h'->RQ h' w (aW x y)->K w.v h'):aI prog 193 #[.agg #[.bool s,.slice A n c],.agg #[.bool s',.slice B n' c']] h K:=by
 refine (fnk func193 (cs:=[(2,[11],[],[.bool false]),(5,[],[(2,2),(3,2)],[.bool false,.slice none 0 0,.bool false,.slice none 0 0])]) (os:=[(4,[0,2,1,3,4,5]),(9,[0,1,3,4,2,5,6,7])]) (own:=[2,3,4,5])) ?_
 refine ⟨fun L R=>R=h/\((L=[.bool true]/\aW x y=0)\/(L=[.bool false]/\y≠0)),?_,?_⟩
 ·refine F6 iy ⟨_,rfl,C0 (fun e=>⟨rfl,.inl ⟨rfl,by simp_all⟩⟩) (fun e=>F6 ix ⟨_,rfl,rfl,?_⟩)⟩
  by_cases Q:x=0
  ·simp_all
  grind
 rintro t R ⟨rfl,hL⟩
 refine Br.of (fun e=>?_) (fun e=>?_)
 ·rcases hL with ⟨_,h0⟩|⟨h1,_⟩
  ·rw [h0] at hK
   exact hK _ _ (B7 _) B5v
  grind
 refine ⟨fun l z=>∃ s A n c s' B n' c' d b,l=[.bool s,.slice A n c,.bool s',.slice B n' c']/\R.le z/\ZI z s A n c d/\ZI z s' B n' c' b/\0<b/\aW d b=aW x y/\ZB m d/\ZB m b,?_,?_⟩
 ·refine Nt iy ⟨_,rfl,C0 (fun e=>?_) (fun e=>?_)⟩
  ·have aa:y<0:=gz0
   refine Bz ix ?_
   intro W r
   refine ⟨_,_,_,_,rfl,B7 _,?_⟩
   refine Bz iy ?_
   intro V k
   exact ⟨_,_,_,_,rfl,B7 _,_,_,_,_,_,_,_,_,-x,-y,rfl,B7 _,r,k,o,Rat.neg_divInt_neg x y,hx.neg,hy.neg⟩
  ·have f:0<y:=gz0
   exact ⟨_,_,_,_,_,_,_,_,x,y,rfl,B7 _,ix,iy,f,rfl,hx,hy⟩
 rintro W A1 n1 c1 V A2 n2 c2 ad ⟨E,A1',T,H,N,A2',G,O,d,b,hl,i,r,k,f,z,u,j⟩
 obtain ⟨rfl,⟨rfl,rfl,rfl⟩,rfl,rfl,rfl,rfl⟩:W=E/\(A1=A1'/\n1=T/\c1=H)/\V=N/\A2=A2'/\n2=G/\c2=O:=gz0
 rw [<- z] at hK
 refine S2 k ⟨_,rfl,C0 (fun X=>?_) (fun X=>?_)⟩
 ·rw [X,Is] at hK
  exact hK _ _ i (A55 r)
 refine Ca (gl.mono i) r k u j hm ?_
 intro A3 n3 c3 h3 p S
 refine ⟨_,_,_,_,rfl,?_⟩
 generalize hqq:aW d b=q at *
 have a:q.num=d/(cK d b:Int):=by
  rw [<- hqq,Rat.num_divInt,Int.sign_eq_one_of_pos f,Int.one_mul,Int.gcd_comm]
 have g:(q.den:Int)=b/(cK d b:Int):=by
  rw [<- hqq,Rat.den_divInt,iN o,Int.gcd_comm,Int.natCast_ediv,Int.natAbs_of_nonneg o]
 have ac:0<cK d b:=Int.gcd_pos_of_ne_zero_right d o
 have C:ZB m (cK d b:Int):=ZB.gcd o j
 refine S2 S ⟨_,rfl,Br.not (C0 (fun Q=>?_) (fun Q=>?_))⟩
 ·rw [Q] at a g
  simp at a g
  refine U7 (q:=q) (r.mono p) (k.mono p) a g ?_
  intro w F
  exact ⟨_,_,_,_,_,_,_,_,rfl,hK _ _ (B0 i p) F⟩
 ·refine S1 (r.mono p) S u C hm o ?_
  intro s4 A4 n4 c4 h4 D i4
  refine ⟨_,_,_,_,rfl,D,?_⟩
  refine S1 ((k.mono p).mono D) (S.mono D) j C hm o ?_
  intro s5 A5 n5 c5 h5 M i5
  refine ⟨_,_,_,_,rfl,M,?_⟩
  refine U7 (q:=q) (i4.mono M) i5 (by rw [a,Int.tdiv_eq_ediv_of_dvd (Int.gcd_dvd_left d b)]) gz0 ?_
  intro w F
  exact ⟨_,_,_,_,_,_,_,_,rfl,hK _ _ (B0 i (B0 p (B0 D M))) F⟩
end
section
variable {α:Type} [E:Enc α]
def OwnSl.store{P:aU}{t e:aK}(one:P.cellsOf t=E.default.size/\(P.info? t).isSome=true){v:aN}{y:α}(hv:v.cells=(enc y).toArray){h g o:aD}{A:Option aG}{c:Nat}{xs:List α}(s:Sep h g o)(w:OwnSl o e A c xs){i b:Nat}(hi:i<xs.length)(hA:A=some ⟨b,0,none⟩){K:Unit->aD->Prop}
 (x:∀ h' o',Sep h' g o'->OwnSl o' e A c (xs.set i y)->(∀ k,k≠b->o' k=o k)->K () h'):wpH P (aH t (.pointer (some (aC ⟨b,0,none⟩ (i*E.default.size)))) v) K h:=by
 rcases w.2 with ⟨D,_⟩|⟨F,j,d,p,r,B⟩
 ·exfalso;grind
 ·rw [hA] at d
  simp only [aL,aS,and_true] at d
  subst d
  obtain ⟨ex,hex⟩:∃ ex,j=xs.flatMap enc++ex:=⟨j.drop (xs.length*E.default.size),by rw [<- B,aT]⟩
  rw [hex] at p r
  obtain ⟨u,f⟩:=Option.isSome_iff_exists.1 one.2
  have C:u.size=E.default.size:=by simpa [Program.cellsOf,f] using one.1
  have m:=E.default.len y
  have n:(i+1)*E.default.size<=xs.length*E.default.size:=aF _ hi
  rw [bF,cD] at n
  have a:(h.without b).put b (.cells (xs.flatMap enc++ex).toArray e)=h:=J5 (s.own b _ p)
  unfold aH
  simp only [C9,Instr.sureAddr,H2,storeVar,J3 f,C,hv,List.size_toArray,m,ne_eq,not_true_eq_false,if_false]
  rw [D4,aJ,<- a]
  refine G8 (enc y) (i*E.default.size) 0 _ (by rw [aQ,K7,m];omega) (E.default.one y) ?_
  have l:H9 (xs.flatMap enc++ex) (i*E.default.size+0) (enc y)=(xs.set i y).flatMap enc++ex:=by
   rw [bO,<- Yq xs hi]
   unfold H9
   rw [cF (by rw [K7];omega),List.drop_append_of_le_length (by rw [K7,m];omega),bJ,bJ,bJ]
  rw [l]
  have q:(h.without b).put b (.cells ((xs.set i y).flatMap enc++ex).toArray e)=h.put b (.cells ((xs.set i y).flatMap enc++ex).toArray e):=by
   rw [<- a,Dg,a]
  rw [q]
  refine x _ _ (s.upd p _) ⟨by simpa using w.1,.inr ⟨b,(xs.set i y).flatMap enc++ex,hA,C3 _ _ _,?_,?_⟩⟩ (fun k z=>B9 _ _ z)
  ·rw [aQ,K7] at r ⊢
   grind
  ·rw [cF (by rw [K7];omega),bU (by rw [K7];omega)]
end
section
variable {h g:aD} {K:VP} {A:Option aG} {n c cols:Nat}
def B1y(h:aD)(v:aN)(A:Option aG)(n c cols:Nat):Prop:=∃ f0 f1:aG,v= .func (.func 251) #[] #[.pointer (some f0),.pointer (some f1)]/\h.cell? f0=some (.slice A n c)/\h.cell? f1=some (I (cols:Int))
def Wk(hc:1<=cols)(hK:∀ v h',h.le h'->B1y h' v A n c cols->K v h'):aI prog 198 #[.slice A n c,I (cols:Int)] h K:=by
 refine (fnk func198) ?_
 refine Pc ?_
 intro b f
 refine ⟨_,rfl,Pc ?_⟩
 intro d a
 have c1:Heap.cell? ((h.put b (.cells (aX (.slice A n c)) 232)).put d (.cells (aX (I (cols:Int))) 3)) ⟨d,0,none⟩=some (I (cols:Int)):=by rw [D7];rfl
 refine ⟨_,rfl,_,c1,C0 (fun e=>o) (fun _=>hK _ _ (B0 (Heap.le_put _ f) (Heap.le_put _ a)) ⟨⟨b,0,none⟩,⟨d,0,none⟩,rfl,?_,c1⟩)⟩
 refine C2 (Heap.le_put _ a) ?_
 rw [D7];rfl
def Rw{g0:aD}{v:aN}{rows:Nat}(ic:B1y g0 v A (rows*cols) c cols)(hc:1<=cols)(hn:rows*cols<=1000000000)(hcap:rows*cols<=c){B:List aN->aD->(aD->Prop)->Prop}{K:aD->Prop}(J:Nat->aD->Prop)(h0:J 0 h)(hle:∀ k h,J k h->g0.le h)
 (hB:∀ k h1,k<rows->J k h1->B [.slice (T9 A ((k+1)*cols) (k*cols) 4) cols cols] h1 (J (k+1))) (hK:∀ h1,J rows h1->K h1):A6a prog v h B K:=by
 obtain ⟨m,p,rfl,z,w⟩:=ic
 refine ⟨251,#[],#[.pointer (some m),.pointer (some p)],rfl,Zo,?_⟩
 intro l rec H a
 show aI _ _ #[.func (.yield l) #[] #[],.pointer (some m),.pointer (some p)] _ _
 refine (fnk func251 [(1,[4],[],[I 0])]) ?_
 refine ⟨fun L t=>∃ (k:Nat) (h1:aD),k<=rows/\L=[I ((k*cols:Nat):Int)]/\h1 l=none/\t=h1.put l (.loop rec)/\J k h1,fun L _=>rows*cols-(iAt L 0).toNat,⟨0,h,o,by simp,H,rfl,h0⟩,?_⟩
 rintro i t ⟨k,h1,O,R,f,rfl,u⟩
 obtain rfl:i=((k*cols:Nat):Int):=gz0
 have n:=B0 (hle k h1 u) (Heap.le_put (.loop rec) f)
 have j:=C2 n z
 have E:=C2 n w
 refine ⟨_,_,_,j,C0 (fun D=>?_) (fun y=>?_)⟩
 ·have d:k<rows:=by
   grind
  have N:(k+1)*cols<=rows*cols:=aF _ d
  have S:(k+1)*cols=k*cols+cols:=gz0
  have G:(if ((rows*cols-(((k*cols:Nat):Int)).toNat:Nat):Int)<(cols:Int) then ((rows*cols-(((k*cols:Nat):Int)).toNat:Nat):Int) else (cols:Int))=(cols:Int):=by
   omega
  have q:C4 (((k*cols:Nat):Int)+(cols:Int))=(((k+1)*cols:Nat):Int):=by rw [C1]<;>omega
  refine ⟨_,E,_,_,_,j,⟨o,o⟩,_,_,_,j,?_⟩
  rw [G,q]
  simp only [bX]
  have C:(k+1)*cols-k*cols=cols:=o
  rw [C]
  refine ⟨⟨o,o⟩,⟨o,o⟩,⟨o,o⟩,?_⟩
  refine (a _ h1 (J (k+1)) f (hB k h1 d u)).mono ?_
  rintro r Q ⟨rfl,s,e,rfl,b⟩
  refine ⟨_,rfl,?_⟩
  show ∃ (t11:Int),_
  have g:=B0 (hle _ s b) (Heap.le_put (.loop rec) e)
  refine ⟨_,C2 g w,?_⟩
  rw [q]
  exact ⟨⟨k+1,s,o,rfl,e,rfl,b⟩,by simp only [R9];omega⟩
 ·have F:k=rows:=by
   by_cases M:k=rows
   ·exact M
   ·exfalso
    have:(k+1)*cols<=rows*cols:=aF _ o
    grind
  grind
end
section
variable {α:Type} [E:Enc α]
def Ue{P:aU}{t e:aK}{z:aN}{bytes:Nat}(st:bV P t e z E.default.size bytes){h g o:aD}{A:Option aG}{c:Nat}{xs:List α}(s:Sep h g o)(w:OwnSl o e A c xs){v:aN}{y:α}(hv:v.cells=(enc y).toArray)(hsz:E.default.size<=1000)
 (hb:(2*(xs.length+1)+192)*bytes<=281474976710656) (hn:xs.length+1<=9223372036854775807) {K:VP}
 (x0:∀ B m d hp,h.le hp->(∀ {ty:aK} {K2:VP},(∀ A' c' h' g' o',g.le g'->Sep h' g' o'->OwnSl o' e A' c' (xs++[y])->(∀ k u,o k=some u->A≠some ⟨k,0,none⟩->o' k=some u/\A'≠some ⟨k,0,none⟩)->K2 (.slice A' (xs.length+1) c') h')->wpH P (aM #[t,t] ty #[.slice A xs.length c,.slice B m d]) K2 hp)->K (.slice B m d) hp):
 wpH P (aO t 1 #[(0,v)]) K h:=by
 obtain ⟨T,p,M⟩:=w.priv s
 refine Y3 st (vs:=[v]) (fun u hu=>by rw [List.mem_singleton.1 hu,hv];simp [E.default.len]) rfl gz0 rfl ?_
 intro b f
 have L:[v].flatMap (fun v=>v.cells.toList)=[y].flatMap enc:=by simp [hv]
 rw [L]
 refine x0 _ _ _ _ (Heap.le_put _ f) (fun {ty K2} x=>?_)
 have p':PrivF (h.put b (.cells ([y].flatMap enc).toArray e)) (T.put b (.cells ([y].flatMap enc).toArray e)) e A c xs:=Priv.put p f _
 refine Ah st p' (ys:=[y]) rfl (Zg e h b [y]) hb hn ?_
 intro A' c' h' g' W hp
 rw [aQ]
 have q:∀ k u,h k=some u->A≠some ⟨k,0,none⟩->g' k=some u:=by
  intro k u a R
  have j:k≠b:=gz0
  exact W k u (by rw [B9 _ _ j];grind)
 have H:∀ k u,g k=some u->A≠some ⟨k,0,none⟩:=by
  intro k u a r
  rcases w.2 with ⟨_,h0⟩|⟨n,l,i,C,_⟩
  ·grind
  ·rw [r] at i
   simp only [aL,aS,and_true] at i
   subst i
   rw [s.dis k _ C] at a;cases a
 rcases hp.2.2 with ⟨S,_⟩|⟨n,l,i,C,D,ha,V⟩
 ·exfalso
  have:=hp.2.1
  grind
 ·subst i
  let o':aD:=fun k=>if k=n then some (.cells (aZ l) e) else if A=some ⟨k,0,none⟩ then none else o k
  have O:o' n=some (.cells (aZ l) e):=gz0
  have ok:∀ k,k≠n->A≠some ⟨k,0,none⟩->o' k=o k:=fun k Q G=>by grind
  let g2:aD:=fun k=>match o' k with|some _=>none|none=>h' k
  have gs:∀ k u,o' k=some u->g2 k=none:=fun k u a=>by grind
  have gn:∀ k,o' k=none->g2 k=h' k:=fun k a=>by grind
  have F:∀ k u,k≠n->g' k=some u->h' k=some u:=fun k u Q a=>by rw [D,B9 _ _ Q];exact a
  have N:∀ k u,o k=some u->A≠some ⟨k,0,none⟩->k≠n:=by
   rintro k u a G rfl
   have:=q k u (s.own k u a) G
   grind
  refine x _ c' h' g2 o' (fun k u a=>?_) ⟨fun k u a=>?_,fun k a=>(gn k a).symm,gs⟩ ⟨hp.2.1,.inr ⟨n,l,rfl,O,ha,V⟩⟩ (fun k u a G=>?_)
  ·have X:o k=none:=by
    cases ho:o k with
    | none=>rfl
    | some y=>rw [s.dis k y ho] at a;cases a
   have r:=H k u a
   have e3:=q k u (s.le k u a) r
   grind
  ·by_cases j:k=n
   ·subst j
    rw [O] at a;cases a
    rw [D,C3]
   ·by_cases r:A=some ⟨k,0,none⟩
    ·grind
    ·rw [ok k j r] at a
     exact F k u j (q k u (s.own k u a) r)
  grind
end
def Zm{P:aU}{t:aK}(one:P.cellsOf t=1/\(P.info? t).isSome=true){v:aN}(hv:Nr v=true)(hc:v.cells=#[v]){h g o:aD}(s:Sep h g o){b:Nat}{cs:Array aN}{e:aK}(hb:o b=some (.cells cs e)){i:Nat}(hi:i<cs.size){K:Unit->aD->Prop}
 (x:∀ h' o',Sep h' g o'->o'=o.put b (.cells (cs.setIfInBounds i v) e)->K () h'):wpH P (aH t (.pointer (some (aC ⟨b,0,none⟩ i))) v) K h:=by
 rw [D4,aJ]
 have a:h.put b (.cells cs e)=h:=Np (s.own b _ hb)
 rw [<- a]
 refine Am one.1 one.2 hv hc hi ?_
 exact x _ _ (s.upd hb _) rfl
structure NT (o:aD) (bp bt cols:Nat) (es:List IV) (ss:List QV) (A:Option aG) (c:Nat) (A':Option aG) (c':Nat):Prop where
 hp:∃ e,o bp=some (.cells #[.pointer (some ⟨bt,0,none⟩)] e)
 ht:∃ e,o bt=some (.cells #[I (cols:Int),.slice A es.length c,.slice A' ss.length c'] e)
 oe:OwnSl o 219 A c es
 os:OwnSl o 244 A' c' ss
 ne:bp≠bt
 a1:A≠some ⟨bp,0,none⟩/\A≠some ⟨bt,0,none⟩
 a2:A'≠some ⟨bp,0,none⟩/\A'≠some ⟨bt,0,none⟩
 a3:∀ b,A=some ⟨b,0,none⟩->A'≠some ⟨b,0,none⟩
section
variable {h g o:aD} {bp bt cols:Nat} {es:List IV} {ss:List QV} {A A':Option aG} {c c':Nat}
def NT.cp(n:NT o bp bt cols es ss A c A' c')(s:Sep h g o):h.cell? ⟨bp,0,none⟩=some (.pointer (some ⟨bt,0,none⟩)):=by
 obtain ⟨e,a⟩:=n.hp
 refine s.cell ?_
 unfold Heap.cell?;grind
def NT.c1(n:NT o bp bt cols es ss A c A' c')(s:Sep h g o):h.cell? (aC ⟨bt,0,none⟩ 1)=some (.slice A es.length c):=by
 obtain ⟨e,a⟩:=n.ht
 refine s.cell ?_
 rw [D4];unfold Heap.cell?;grind
def NT.c2(n:NT o bp bt cols es ss A c A' c')(s:Sep h g o):h.cell? (aC ⟨bt,0,none⟩ 2)=some (.slice A' ss.length c'):=by
 obtain ⟨e,a⟩:=n.ht
 refine s.cell ?_
 rw [D4];unfold Heap.cell?;grind
def B2o:prog.cellsOf 285=1/\(prog.info? 285).isSome=true:=by constructor<;>kernel_rfl
def B2n:prog.cellsOf 232=1/\(prog.info? 232).isSome=true:=by constructor<;>kernel_rfl
def NT.buildE(n:NT o bp bt cols es ss A c A' c')(s:Sep h g o)(w:IV)(hl:es.length<=100000000){F:aD->Prop}(hF:∀ h' g' o' A2 c2,g.le g'->Sep h' g' o'->NT o' bp bt cols (es++[w]) ss A2 c2 A' c'->F h'){K:VP}
 (x:∀ B m d hp,h.le hp->hp.cell? ⟨bp,0,none⟩=some (.pointer (some ⟨bt,0,none⟩))->(∀ {K2:VP},(∀ A2 c2 h2,h2.cell? ⟨bp,0,none⟩=some (.pointer (some ⟨bt,0,none⟩))->wpH prog (aH 285 (.pointer (some (aC ⟨bt,0,none⟩ 1))) (.slice A2 (es.length+1) c2)) (fun _ h3=>F h3) h2->K2 (.slice A2 (es.length+1) c2) h2)->wpH prog (aM #[285,285] 285 #[.slice A es.length c,.slice B m d]) K2 hp)->K (.slice B m d) hp):
 wpH prog (aO 285 1 #[(0,w.v)]) K h:=by
 refine Ue tZs s n.oe (y:=w) rfl dc oo oo ?_
 intro B m d hp C f
 refine x B m d hp C (C2 C (n.cp s)) (fun {K2} q=>f ?_)
 intro A2 c2 h2 N D M z Q keep
 obtain ⟨T,t⟩:=n.hp
 obtain ⟨O,r⟩:=n.ht
 have L:=keep bp _ t n.a1.1
 have H:=keep bt _ r n.a1.2
 refine q A2 c2 h2 ?_ ?_
 ·refine z.cell ?_
  unfold Heap.cell?;grind
 ·refine Zm B2o rfl rfl z H.1 (by simp) ?_
  intro h3 E S G
  have ko:∀ k,k≠bt->E k=D k:=fun k q=>by rw [G,B9 _ _ q]
  refine hF h3 N E A2 c2 M S ⟨⟨T,gz0⟩,⟨O,by rw [G,C3];simp⟩,Q.keep fun b y i l=>gz0,?_,n.ne,⟨L.2,H.2⟩,n.a2,?_⟩
  ·refine (n.os.keep (o':=D) fun b y i l=>(keep b y l (fun e=>n.a3 b e i)).1).keep fun b y i l=>by rw [ko b (fun e=>n.a2.2 gz0)];exact l
  ·intro b i a
   rcases n.os.2 with ⟨_,V⟩|⟨u,R,j,p,_⟩
   ·grind
   ·rw [j] at a
    simp only [aL,aS,and_true] at a
    subst a
    exact (keep u _ p (fun e=>n.a3 u e j)).2 i
def NT.buildS(n:NT o bp bt cols es ss A c A' c')(s:Sep h g o)(w:QV)(hl:ss.length<=100000000){F:aD->Prop}(hF:∀ h' g' o' A2 c2,g.le g'->Sep h' g' o'->NT o' bp bt cols es (ss++[w]) A c A2 c2->F h'){K:VP}
 (x:∀ B m d hp,h.le hp->hp.cell? ⟨bp,0,none⟩=some (.pointer (some ⟨bt,0,none⟩))->(∀ {K2:VP},(∀ A2 c2 h2,h2.cell? ⟨bp,0,none⟩=some (.pointer (some ⟨bt,0,none⟩))->wpH prog (aH 232 (.pointer (some (aC ⟨bt,0,none⟩ 2))) (.slice A2 (ss.length+1) c2)) (fun _ h3=>F h3) h2->K2 (.slice A2 (ss.length+1) c2) h2)->wpH prog (aM #[232,232] 232 #[.slice A' ss.length c',.slice B m d]) K2 hp)->K (.slice B m d) hp):
 wpH prog (aO 232 1 #[(0,w.v)]) K h:=by
 refine Ue Zq s n.os (y:=w) rfl dc oo oo ?_
 intro B m d hp u f
 refine x B m d hp u (C2 u (n.cp s)) (fun {K2} l=>f ?_)
 intro A2 c2 h2 M z L t O keep
 obtain ⟨S,q⟩:=n.hp
 obtain ⟨N,p⟩:=n.ht
 have H:=keep bp _ q n.a2.1
 have G:=keep bt _ p n.a2.2
 refine l A2 c2 h2 ?_ ?_
 ·refine t.cell ?_
  unfold Heap.cell?;grind
 ·refine Zm B2n rfl rfl t G.1 (by simp) ?_
  intro h3 D R E
  have ko:∀ k,k≠bt->D k=z k:=fun k l=>by rw [E,B9 _ _ l]
  refine hF h3 M D A2 c2 L R ⟨⟨S,gz0⟩,⟨N,by rw [E,C3];simp⟩,?_,O.keep fun b y a i=>gz0,n.ne,n.a1,⟨H.2,G.2⟩,?_⟩
  ·refine (n.oe.keep (o':=z) fun b y a i=>(keep b y i (fun e=>n.a3 b a e)).1).keep fun b y a i=>by rw [ko b (fun e=>n.a1.2 gz0)];exact i
  ·intro b a
   rcases n.oe.2 with ⟨_,T⟩|⟨r,Q,C,j,_⟩
   ·grind
   ·rw [C] at a
    simp only [aL,aS,and_true] at a
    subst a
    exact (keep r _ j (fun e=>n.a3 r C e)).2
end
def A3f(E:Nat->Rat)(cols i:Nat):Nat->Rat:=fun j=>E (i*cols+j)
def B2x(E:Nat->Rat)(cols i j:Nat):Int:=scl (A3f E cols i j) (Cp (A3f E cols i) cols:Int)
def B23(E:Nat->Rat)(cols i:Nat):Nat->Nat
 | 0=>0
 | j+1=>cK (B23 E cols i j:Int) (B2x E cols i j)
def A26(E:Nat->Rat)(cols i:Nat):Nat:=if B23 E cols i cols=0 then 1 else B23 E cols i cols
def A37(E:Nat->Rat)(cols i j:Nat):Int:=(B2x E cols i j).tdiv (A26 E cols i:Int)
def Uk(E:Nat->Rat)(cols i:Nat):Rat:=aW (Cp (A3f E cols i) cols:Int) (A26 E cols i:Int)
def B3p(E:Nat->Rat)(cols i:Nat):∀ n j,j<n->(B23 E cols i n:Int)∣B2x E cols i j:=by
 intro n
 induction n with
 | zero=>omega
 | succ n ih=>
  intro j a
  by_cases e:j=n
  ·subst e;exact Int.gcd_dvd_right _ _
  ·exact Int.dvd_trans (Int.gcd_dvd_left _ _) (ih j o)
def Rb(E:Nat->Rat)(cols i:Nat):0<A26 E cols i:=by unfold A26;grind
def B42(E:Nat->Rat)(cols i:Nat){j:Nat}(hj:j<cols):(A26 E cols i:Int)∣B2x E cols i j:=by
 unfold A26
 split
 ·omega
 ·exact B3p E cols i cols j hj
def B5o(E:Nat->Rat)(cols i:Nat){j:Nat}(hj:j<cols):(A37 E cols i j:Rat)=Uk E cols i*E (i*cols+j):=by
 have d:=Rb E cols i
 have a:((A26 E cols i:Nat):Int)≠0:=o
 have c:((A37 E cols i j:Int):Rat)*((A26 E cols i:Nat):Int)=E (i*cols+j)*((Cp (A3f E cols i) cols:Nat):Int):=by
  rw [<- aR]
  unfold A37
  rw [Int.tdiv_mul_cancel (B42 E cols i hj)]
  exact A92 (by
   have:=Yj (A3f E cols i) cols j hj
   exact Int.natCast_dvd_natCast.2 this)
 have b:=P8 a
 unfold Uk
 rw [bI]
 grind
def Qt(E:Nat->Rat)(cols i:Nat):0<Uk E cols i:=by
 unfold Uk
 rw [bI]
 have a:(0:Rat)<((Cp (A3f E cols i) cols:Nat):Int):=by
  have:=Yi (A3f E cols i) cols
  exact_mod_cast this
 have b:(0:Rat)<((A26 E cols i:Nat):Int):=by
  have:=Rb E cols i
  exact_mod_cast this
 exact Rat.mul_pos a (Rat.inv_pos.2 b)
def ZB.gcd2{k:Nat}{x y:Int}(hx:ZB k x)(hy:ZB k y):ZB k (cK x y:Int):=by
 by_cases h:y=0
 ·subst h
  rw [Int.gcd_zero_right]
  assumption
 ·exact ZB.gcd h hy
section
variable {E:Nat->Rat} {cols i m:Nat}
def Xs(h:∀ j,j<cols->Sz m (E (i*cols+j))){j:Nat}(hj:j<cols):ZB (1+cols*m+m) (B2x E cols i j):=by
 have:=A91 (h j hj) (Kc (f:=A3f E cols i) cols h)
 exact this.mono o
def B0s(h:∀ j,j<cols->Sz m (E (i*cols+j))):∀ j,j<=cols->ZB (1+cols*m+m) (B23 E cols i j:Int):=by
 intro j
 induction j with
 | zero=>intro _;exact ZB.zero
 | succ j ih=>intro a;exact (ih o).gcd2 (Xs h o)
def Ze(h:∀ j,j<cols->Sz m (E (i*cols+j))):ZB (1+cols*m+m) (A26 E cols i:Int):=by
 unfold A26
 split
 ·exact ZB.one o
 ·exact B0s h cols (aE _)
def B5n(h:∀ j,j<cols->Sz m (E (i*cols+j))){j:Nat}(hj:j<cols):ZB (1+cols*m+m) (A37 E cols i j):=(Xs h hj).tdiv
def A36(h:∀ j,j<cols->Sz m (E (i*cols+j))):Sz (1+cols*m+m) (Uk E cols i):=by
 have:=Rb E cols i
 exact T3 o ((Kc (f:=A3f E cols i) cols h).mono o) (Ze h)
end
structure EsOk (g:aD) (E:Nat->Rat) (cols k:Nat) (es:List IV) (V:Nat->Int) (j:Nat):Prop where
 len:es.length=k*cols+j
 rows:∀ a b,a<k->b<cols->∃ w,es[a*cols+b]? = some w/\ZIr g w (A37 E cols a b)
 last:∀ b,b<j->∃ w,es[k*cols+b]? = some w/\ZIr g w (V b)
def EsOk.mono{g g':aD}{E:Nat->Rat}{cols k j:Nat}{es:List IV}{V:Nat->Int}(e:EsOk g E cols k es V j)(l:g.le g'):EsOk g' E cols k es V j:=by
 refine ⟨e.len,fun a b c i=>?_,fun b c=>?_⟩
 ·obtain ⟨w,f,d⟩:=e.rows a b c i;exact ⟨w,f,Dn _ _ _ _ l d⟩
 ·obtain ⟨w,f,d⟩:=e.last b c;exact ⟨w,f,Dn _ _ _ _ l d⟩
def EsOk.push{g:aD}{E:Nat->Rat}{cols k j:Nat}{es:List IV}{V:Nat->Int}(e:EsOk g E cols k es V j){w:IV}(hw:ZIr g w (V j)):EsOk g E cols k (es++[w]) V (j+1):=by
 have l:=e.len
 refine ⟨gz0,fun a b c f=>?_,fun b c=>?_⟩
 ·obtain ⟨u,d,i⟩:=e.rows a b c f
  grind
 ·by_cases m:b=j
  ·grind
  ·obtain ⟨u,d,i⟩:=e.last b o
   grind
def EsOk.set{g:aD}{E:Nat->Rat}{cols k:Nat}{es:List IV}{V:Nat->Int}(e:EsOk g E cols k es V cols){b:Nat}(hb:b<cols){w:IV}{z:Int}(hw:ZIr g w z):EsOk g E cols k (es.set (k*cols+b) w) (fun x=>if x=b then z else V x) cols:=by
 have m:=e.len
 refine ⟨gz0,fun a d c f=>?_,fun d c=>?_⟩
 ·obtain ⟨u,j,l⟩:=e.rows a d c f
  have i:=R4 c f
  grind
 ·by_cases n:d=b
  ·grind
  ·obtain ⟨u,j,l⟩:=e.last d c
   grind
def EsOk.congr{g:aD}{E:Nat->Rat}{cols k j:Nat}{es:List IV}{V V':Nat->Int}(e:EsOk g E cols k es V j)(h:∀ b,b<j->V b=V' b):EsOk g E cols k es V' j:=
 ⟨e.len,e.rows,fun b a=>by rw [<- h b a];exact e.last b a⟩
def EsOk.next{g:aD}{E:Nat->Rat}{cols k:Nat}{es:List IV}{V:Nat->Int}(e:EsOk g E cols k es V cols)(h:∀ b,b<cols->V b=A37 E cols k b)(V':Nat->Int):EsOk g E cols (k+1) es V' 0:=by
 refine ⟨by rw [e.len,bF,cD];rfl,fun a b d c=>?_,fun b d=>o⟩
 by_cases f:a=k
 ·subst f;rw [<- h b c];exact e.last b c
 ·exact e.rows a b o c
section
variable {h g:aD} {K:VP} {A:Option aG} {n c rows cols m:Nat} {E:Nat->Rat}
def Lw(gl:Gl h)(r:RowV RQr h A (rows*cols) E)(hcap:rows*cols<=c)(hr:1<=rows)(hr2:rows<=10000)(hc:1<=cols)(hc2:cols<=10000)(hs:∀ i,i<rows*cols->Sz m (E i))(hm:1+cols*m+m<=6400000000)
 (hK:∀ h' g' o' T,h.le g'->Tab h' g' o' T (A37 E cols) (Uk E cols)->T.rows=rows->T.cols=cols->K (.pointer (some ⟨T.bt,0,none⟩)) h'):aI prog 151 #[.slice A (rows*cols) c,I (cols:Int)] h K:=by
 refine (fnk func151 [(8,[31],[(9,2)],[I 0,.bool false,.slice none 0 0]),(17,[62],[],[I 0])] (cs:=[(16,[],[(9,2)],[.bool false,.slice none 0 0])]) (os:=[(12,[1,2,3,4,5,0,6,7,8,9,10]),(21,[1,2,3,4,5,6,0,7,8,9,10,11,12])]) (rs:=[(4,[.slice none 0 0])]) (al:=[(12,[(0,[6,7])]),(21,[(0,[7,8,9])])]) (own:=[7,9,11,12,14]) (wr:=[1000000000])) ?_
 have cl:rows*cols<=100000000:=by
  have:rows*cols<=10000*10000:=cL hr2 hc2
  omega
 refine Pc ?_
 intro bt bi
 refine ⟨_,rfl,Dd (z:=.pointer none) (by kernel_rfl) ?_⟩
 intro V ap
 have au:V≠bt:=by rintro rfl;rw [C3] at ap;cases ap
 refine ⟨_,rfl,?_⟩
 refine Am (by kernel_rfl) (by kernel_rfl) rfl rfl dc ?_
 have s0:=((Sep.refl h).new bi (.cells (aX (.agg #[I (cols:Int),.slice none 0 0,.slice none 0 0])) 287)).new ap (.cells ((aX (.pointer none)).setIfInBounds 0 (.pointer (some ⟨bt,0,none⟩))) 236)
 have n0:NT ((An.put bt (.cells (aX (.agg #[I (cols:Int),.slice none 0 0,.slice none 0 0])) 287)).put V (.cells ((aX (.pointer none)).setIfInBounds 0 (.pointer (some ⟨bt,0,none⟩))) 236)) V bt cols [] [] none 0 none 0:=
  ⟨⟨_,C3 _ _ _⟩,⟨_,by rw [B9 _ _ au.symm,C3];rfl⟩,OwnSl.nil,OwnSl.nil,au,⟨by simp,by simp⟩,⟨by simp,by simp⟩,fun b hb=>by cases hb⟩
 generalize (An.put bt (.cells (aX (.agg #[I (cols:Int),.slice none 0 0,.slice none 0 0])) 287)).put V (.cells ((aX (.pointer none)).setIfInBounds 0 (.pointer (some ⟨bt,0,none⟩))) 236)=o0 at s0 n0
 refine s0.call (Wk hc ?_)
 intro v g0 l0 ic cb s3
 have bound:∀ k,k<rows->∀ j,j<cols->Sz m (E (k*cols+j)):=fun k hk j hj=>hs _ (R4 hk hj)
 refine ⟨_,rfl,Rw ic hc oo hcap (fun k M=>∃ (O o1:aD) (C:List IV) (u:List QV) (A1:Option aG) (c1:Nat) (A2:Option aG) (c2:Nat),g0.le O/\Sep M O o1/\NT o1 V bt cols C u A1 c1 A2 c2/\EsOk O E cols k C (fun _=>0) 0/\u.length=k/\Row RQr O u k (Uk E cols)) ?_ ?_ ?_ ?_⟩
 ·exact ⟨g0,o0,[],[],none,0,none,0,B7 _,s3,n0,⟨by simp,fun a b h1=>oo,fun b h1=>oo⟩,rfl,Row.nil⟩
 ·rintro k M ⟨O,o1,C,u,A1,c1,A2,c2,lg,s1,_⟩
  exact B0 lg s1.le
 ·rintro k cf av ⟨O,o1,C,u,A1,c1,A2,c2,a7,s4,R,e1,aa,rs⟩
  have bk:=bound k av
  have ch:(k+1)*cols<=rows*cols:=aF _ av
  have co:(k+1)*cols=k*cols+cols:=gz0
  have b8:k<=k*cols:=Nat.le_mul_of_pos_right k hc
  have ar:=B0 l0 a7
  have aw:RowV RQr h A ((k+1)*cols) E:=by
   have:=r.cut (c:=c) (l:=0) (k:=(k+1)*cols) oo hcap
   rw [H1] at this
   grind
  have ai:RowV RQr h (T9 A ((k+1)*cols) (k*cols) 4) cols (A3f E cols k):=aw.cut (c:=(k+1)*cols) (l:=k*cols) (k:=cols) oo (aE _)
  refine ⟨_,_,_,rfl,s4.call (Ds (gl.mono ar) (ai.mono G2 ar) oo bk hm ?_)⟩
  intro sd Ad nd cd g2 l2 id cq s5
  have cE:=R.c1 s5
  rw [e1.len,bO] at cE
  have d2:=Kc (f:=A3f E cols k) cols bk
  have an:1+cols*m<=1+cols*m+m:=oo
  refine ⟨_,_,_,_,rfl,_,R.cp s5,_,rfl,_,_,_,cE,fun L M=>∃ (j:Nat) (s:Bool) (B:Option aG) (bn bc:Nat) (W o3:aD) (C:List IV) (A1:Option aG) (c1:Nat),j<=cols/\L=[I (j:Int),.bool s,.slice B bn bc]/\g2.le W/\Sep M W o3/\NT o3 V bt cols C u A1 c1 A2 c2/\EsOk W E cols k C (B2x E cols k) j/\ZI W s B bn bc (B23 E cols k j:Int),
   fun L _=>cols-(iAt L 0).toNat,⟨0,false,none,0,0,g2,o1,C,A1,c1,oo,rfl,B7 _,s5,R,(e1.mono l2).congr (fun b hb=>oo),ZI.zero⟩,?_⟩
  rintro z bs bA bn bc cm ⟨j,sB,B,cj,ca,W,o3,ae,A3,c3,hj,eL,l3,s6,n3,e3,i3⟩
  simp only [List.cons.injEq,Value.int.injEq,Value.bool.injEq,Value.slice.injEq,true_and,and_true] at eL
  obtain ⟨rfl,rfl,rfl,rfl,rfl⟩:=eL
  have b6:C4 ((j:Int)+1)=((j+1:Nat):Int):=by rw [C1]<;>omega
  have af:=B0 ar (B0 l2 l3)
  refine C0 (fun bq=>?_) (fun b4=>?_)
  ·have D:j<cols:=oo
   obtain ⟨a,w,ea,X,q0,q1,q2,q3⟩:=ai.qat D
   have ad:=B0 af s6.le
   refine ⟨a,ea,oo,oo,_,_,_,_,_,_,_,_,C2 ad q0,C2 ad q1,C2 ad q2,C2 ad q3,?_⟩
   refine s6.call (Jt (m:=1+cols*m+m) (G2 _ _ _ _ af X) (id.mono l3) ((bk j D).mono oo) (d2.mono an) hm ?_)
   intro s7 A7 n7 c7 g7 l7 i7 a5 b3
   refine ⟨_,_,_,_,rfl,b3.call (Ca (gl.mono (B0 af l7)).tz (i3.mono l7) i7 (B0s bk j hj) (Xs bk D) hm ?_)⟩
   intro A8 n8 c8 g8 l8 i8 aq G
   have z7:ZIr g8 ⟨s7,A7,n7,c7⟩ (B2x E cols k j):=i7.mono l8
   have hF:∀ h' g' o' A2' F,g8.le g'->Sep h' g' o'->NT o' V bt cols (ae++[⟨s7,A7,n7,c7⟩]) u A2' F A2 c2->(∃ (j':Nat) (s:Bool) (B:Option aG) (bn bc:Nat) (W o3:aD) (C:List IV) (A1:Option aG) (c1:Nat),j'<=cols/\[I (C4 ((j:Int)+1)),.bool false,.slice A8 n8 c8]=[I (j':Int),.bool s,.slice B bn bc]/\g2.le W/\Sep h' W o3/\NT o3 V bt cols C u A1 c1 A2 c2/\EsOk W E cols k C (B2x E cols k) j'/\ZI W s B bn bc (B23 E cols k j':Int))/\cols-(iAt [I (C4 ((j:Int)+1)),.bool false,.slice A8 n8 c8] 0).toNat<cols-(iAt [I (j:Int),.bool bs,.slice bA bn bc] 0).toNat:=by
    intro h' g' o' A2' F H s' n'
    rw [b6]
    refine ⟨⟨j+1,false,A8,n8,c8,g',o',_,A2',F,oo,rfl,B0 l3 (B0 l7 (B0 l8 H)),s',n',((e3.mono (B0 l7 l8)).push z7).mono H,i8.mono H⟩,by simp only [R9];omega⟩
   have ac:ae.length<=100000000:=by have:=e3.len;omega
   refine ⟨_,_,_,_,rfl,_,n3.cp G,_,rfl,_,_,_,n3.c1 G,⟨_,n3.cp G,?_⟩,?_⟩
   ·exact n3.buildE G ⟨s7,A7,n7,c7⟩ ac hF fun B m d M lp cp n=>⟨_,_,_,rfl,lp,n fun A2 c2 h2 _ q=>⟨_,_,_,rfl,_,rfl,q⟩⟩
   ·exact n3.buildE G ⟨s7,A7,n7,c7⟩ ac hF fun B m d M lp cp n=>⟨_,_,_,rfl,lp,⟨_,cp,n fun A2 c2 h2 _ q=>⟨_,_,_,rfl,_,rfl,q⟩⟩,n fun A2 c2 h2 ak q=>⟨_,_,_,rfl,_,ak,_,rfl,q⟩⟩
  ·have D:j=cols:=oo
   subst D
   have hg:((B23 E j k j:Nat):Int)=0↔B23 E j k j=0:=oo
   refine ⟨fun L M=>∃ (s:Bool) (B:Option aG) (bn bc:Nat) (g4:aD),L=[.bool s,.slice B bn bc]/\W.le g4/\Sep M g4 o3/\ZI g4 s B bn bc (A26 E j k:Int),?_,?_⟩
   ·refine s6.call (F6 i3 ?_)
    intro a5 s7
    refine ⟨_,rfl,C0 (fun e=>?_) (fun e=>?_)⟩
    ·refine s7.call (Dy oo oo ?_)
     intro S A8 n8 c8 g8 l8 i8 aq G
     refine ⟨_,_,_,_,rfl,_,_,_,_,g8,rfl,l8,G,?_⟩
     have:A26 E j k=1:=by unfold A26;grind
     grind
    ·refine ⟨_,_,_,_,W,rfl,B7 _,s7,?_⟩
     have:A26 E j k=B23 E j k j:=by unfold A26;grind
     grind
   ·rintro cs cA cn cc a5 ⟨bl,b5,bv,bx,g4,eL,l4,s7,ic⟩
    obtain ⟨rfl,rfl,rfl,rfl⟩:cs=bl/\cA=b5/\cn=bv/\cc=bx:=gz0
    have e4:=e3.mono l4
    have a9:=n3.c1 s7
    rw [e4.len] at a9
    have ay:ae≠[]:=by rintro rfl;have:=e4.len;grind
    obtain ⟨N,ao,rB⟩:=n3.oe.rowB ay
    subst ao
    have ck:k*j+j<=c3:=by have:=n3.oe.1;rw [e4.len] at this;exact this
    have bg:(((k*j:Nat):Int)).toNat=k*j:=rfl
    have ba:T9 (some ⟨N,0,none⟩) c3 ((((k*j:Nat):Int)).toNat) 2=some ⟨N,k*j*2,none⟩:=by rw [bg,Nf oo,D4,aJ]
    have ax:k*j+j-(((k*j:Nat):Int)).toNat=j:=oo
    refine ⟨_,n3.cp s7,_,rfl,_,_,_,a9,⟨oo,oo⟩,?_⟩
    rw [ba,ax]
    refine ⟨fun L M=>∃ (p:Nat) (g o:aD) (C:List IV),p<=j/\L=[I (p:Int)]/\g4.le g/\Sep M g o/\NT o V bt j C u (some ⟨N,0,none⟩) c3 A2 c2/\EsOk g E j k C (fun b=>if b<p then A37 E j k b else B2x E j k b) j,fun L _=>j-(iAt L 0).toNat,⟨0,g4,o3,ae,oo,rfl,B7 _,s7,n3,e4.congr fun b hb=>oo⟩,?_⟩
    rintro z aq ⟨p,g5,o5,Q,ci,eL,l5,S,t,e5⟩
    obtain rfl:z=(p:Int):=gz0
    have be:C4 ((p:Int)+1)=((p+1:Nat):Int):=by rw [C1]<;>omega
    have bh:C4 (((k*j:Nat):Int)+(p:Int))=((k*j+p:Nat):Int):=by rw [C1]<;>omega
    have a8:=t.c1 S
    rw [e5.len] at a8
    have bz:=Rb E j k
    refine C0 (fun bq=>?_) (fun b4=>?_)
    ·have D:p<j:=oo
     obtain ⟨w,ew,X⟩:=e5.last p D
     rw [iN (bL p)] at X
     obtain ⟨cg,aj,bo⟩:=t.oe.rowB gz0
     simp only [aL,aS,and_true] at aj
     subst aj
     have ah:k*j+p<Q.length:=gz0
     have ce:Q[k*j+p]=w:=by
      grind
     have ha:k*j*2+p*2=(k*j+p)*2:=by rw [bF]
     have cell:∀ x v,(enc w)[x]? = some v->aq.cell? (aC (aC ⟨N,k*j*2,none⟩ (((p:Int)).toNat*2)) x)=some v:=by
      intro x v hx
      refine S.cell ?_
      rw [D4,D4]
      show o5.cell? ⟨N,k*j*2+p*2+x,none⟩=_
      rw [ha]
      exact bo.cell ah gz0
     refine ⟨_,rfl,oo,oo,_,_,_,_,cell 0 _ rfl,cell 1 _ rfl,_,t.cp S,_,rfl,_,_,_,a8,?_⟩
     refine S.call (S1 X (ic.mono l5) (Xs bk D) (Ze bk) hm oo ?_)
     intro s9 A9 n9 c9 g9 l9 i9 a6 a4
     refine ⟨_,_,_,_,rfl,S.le_le a4 l9,_,rfl,oo,oo,?_⟩
     rw [bh]
     refine OwnSl.store Rk (y:=(⟨s9,A9,n9,c9⟩:IV)) rfl a4 t.oe ah rfl ?_
     intro b9 br bm a0 ko
     obtain ⟨x1,cr⟩:=t.hp
     obtain ⟨x2,bf⟩:=t.ht
     have b1:V≠N:=fun e=>t.a1.1 (by rw [e])
     have b2:bt≠N:=fun e=>t.a1.2 (by rw [e])
     rw [be]
     refine ⟨⟨p+1,g9,br,Q.set (k*j+p) ⟨s9,A9,n9,c9⟩,oo,rfl,B0 l5 l9,bm,⟨⟨x1,gz0⟩,⟨x2,gz0⟩,a0,t.os.keep fun b x hb hx=>by rw [ko b (fun e=>t.a3 N rfl gz0)];exact hx,t.ne,t.a1,t.a2,t.a3⟩,((e5.mono l9).set D (show ZIr g9 ⟨s9,A9,n9,c9⟩ (A37 E j k p) from i9)).congr fun b hb=>?_⟩,by simp only [R9];omega⟩
     grind
    ·have bw:p=j:=oo
     subst bw
     have eN:EsOk g5 E p (k+1) Q (fun _=>0) 0:=e5.next (fun b hb=>oo) _
     have sS:=A36 (E:=E) (cols:=p) (i:=k) bk
     have fr:∀ (gg:aD) (w:QV),g5.le gg->RQ gg w (aW (Cp (A3f E p k) p:Int) (A26 E p k:Int))->∀ h' g' o' A2' F,gg.le g'->Sep h' g' o'->NT o' V bt p Q (u++[w]) (some ⟨N,0,none⟩) c3 A2' F->∃ (O o1:aD) (C:List IV) (u:List QV) (A1:Option aG) (c1:Nat) (A2:Option aG) (c2:Nat),g0.le O/\Sep h' O o1/\NT o1 V bt p C u A1 c1 A2 c2/\EsOk O E p (k+1) C (fun _=>0) 0/\u.length=k+1/\Row RQr O u (k+1) (Uk E p):=by
      intro gg w az X h' g' o' A2' F H s' n'
      have ag:O.le g':=B0 l2 (B0 l3 (B0 l4 (B0 l5 (B0 az H))))
      refine ⟨g',o',Q,u++[w],_,c3,A2',F,B0 a7 ag,s',n',eN.mono (B0 az H),gz0,?_⟩
      have bj:Row RQr g' u u.length (Uk E p):=by rw [aa];exact rs.mono G2 ag
      have:=bj.push (w:=w) (by rw [aa];exact G2 _ _ _ _ H X)
      grind
     have bd:=(gl.mono (B0 af (B0 l4 l5))).tz
     have bb:=(id.mono (B0 l3 (B0 l4 l5)))
     have am:u.length<=100000000:=oo
     refine ⟨_,t.cp S,_,rfl,_,_,_,t.c2 S,⟨_,t.cp S,?_⟩,?_⟩
     ·refine S.call (O5 bd bb (ic.mono l5) (d2.mono an) (Ze bk) hm ?_)
      intro w gf lf X a6 s9
      refine ⟨_,_,_,_,_,_,_,_,rfl,S.le_le s9 lf,?_⟩
      exact t.buildS s9 w am (fr gf w lf X) fun B m d M lp cp n=>⟨_,_,_,rfl,lp,n fun A2 c2 h2 _ q=>⟨_,_,_,rfl,_,rfl,q⟩⟩
     ·refine S.call (O5 bd bb (ic.mono l5) (d2.mono an) (Ze bk) hm ?_)
      intro w gf lf X a6 s9
      refine ⟨_,_,_,_,_,_,_,_,rfl,S.le_le s9 lf,⟨_,t.cp s9,?_⟩,?_⟩
      ·exact t.buildS s9 w am (fr gf w lf X) fun B m d M lp cp n=>⟨_,_,_,rfl,lp,n fun A2 c2 h2 _ q=>⟨_,_,_,rfl,_,rfl,q⟩⟩
      ·exact t.buildS s9 w am (fr gf w lf X) fun B m d M lp cp n=>⟨_,_,_,rfl,lp,⟨_,cp,n fun A2 c2 h2 _ q=>⟨_,_,_,rfl,_,rfl,q⟩⟩,n fun A2 c2 h2 ak q=>⟨_,_,_,rfl,_,ak,_,rfl,q⟩⟩
 ·rintro M ⟨O,o1,C,u,A1,c1,A2,c2,lg,s1,R,e1,aa,rs⟩
  refine ⟨_,R.cp s1,?_⟩
  have ac:C.length=rows*cols:=by rw [e1.len];rfl
  have b7:0<rows*cols:=Nat.mul_pos oo oo
  obtain ⟨N,ao,rE⟩:=R.oe.rowB gz0
  obtain ⟨bS,bu,rS⟩:=R.os.rowB gz0
  subst ao bu
  obtain ⟨x2,bf⟩:=R.ht
  refine hK M O o1 ⟨bt,N,bS,rows,cols,c1,c2⟩ (B0 l0 lg) ⟨s1,fun (e:bt=N)=>R.a1.2 (by rw [<- e]),fun (e:bt=bS)=>R.a2.2 (by rw [<- e]),fun (e:N=bS)=>R.a3 N rfl (by rw [e]),⟨x2,gz0⟩,⟨C,rE,ac,fun i j hi hj=>e1.rows i j hi hj⟩,⟨u,rS,aa,rs⟩,by rw [<- ac];exact R.oe.1,by rw [<- aa];exact R.os.1,⟨hr2,hc2⟩,hc⟩ rfl rfl
end
def C14(c:Array aN):Prop:=∀ (i:Nat) (n:Int),c[i]? ≠ some (Value.int .u64 n)
def SlI.without{h:aD}{A:Option aG}{xs:List Int}{b:Nat}{c:Array aN}{e:aK}(hb:h b=some (.cells c e))(hc:C14 c)(s:SlI .u64 h A xs):SlI .u64 (h.without b) A xs:=by
 rcases s with s|⟨a,k,f⟩
 ·exact .inl s
 ·by_cases g:xs=[]
  ·subst g;exact SlI.nil
  ·right
   refine ⟨a,k,fun i v l=>?_⟩
   have d:=f i v l
   have j:a.block≠b:=by
    rintro rfl
    obtain ⟨x,g⟩:∃ x,v= .int .u64 x:=by
     grind
    subst g
    unfold Heap.cell? at d
    rw [Tz,hb] at d
    simp only at d
    split at d
    ·cases d
    ·exact hc _ _ d
   unfold Heap.cell? at d ⊢
   rw [Tz] at d ⊢
   unfold Heap.without
   grind
def ZI.without{h:aD}{s:Bool}{A:Option aG}{n c:Nat}{z:Int}{b:Nat}{cs:Array aN}{e:aK}(hb:h b=some (.cells cs e))(hc:C14 cs)(i:ZI h s A n c z):ZI (h.without b) s A n c z:=by
 obtain ⟨a,⟨j,k,f,d⟩,g⟩:=i
 exact ⟨a,⟨j,k,SlI.without hb hc f,d⟩,g⟩
def RQ.without{h:aD}{w:QV}{q:Rat}{b:Nat}{cs:Array aN}{e:aK}(hb:h b=some (.cells cs e))(hc:C14 cs)(i:RQ h w q):RQ (h.without b) w q:=⟨ZI.without hb hc i.num,ZI.without hb hc i.den⟩
def A16(xs:List QV):C14 (xs.flatMap enc).toArray:=by
 intro i n h
 have e:(xs.flatMap enc)[i]? = some (.int .u64 n):=gz0
 have b:=List.mem_of_getElem? e
 obtain ⟨x,_,d⟩:=List.mem_flatMap.1 b
 have a:(.int .u64 n:aN)∈[.bool x.s,.slice x.A x.n x.c,.bool x.s2,.slice x.A2 x.n2 x.c2]:=d
 grind
def Sep.grab{h g o:aD}(s:Sep h g o){b:Nat}{x:Obj}(hb:g b=some x):Sep h (g.without b) (o.put b x):=by
 refine ⟨fun k y e=>?_,fun k e=>?_,fun k y e=>?_⟩
 ·by_cases a:k=b
  ·subst a
   rw [C3] at e;cases e
   exact s.le k _ hb
  ·rw [B9 _ _ a] at e;exact s.own k y e
 ·by_cases a:k=b
  ·subst a;rw [C3] at e;cases e
  ·rw [B9 _ _ a] at e
   unfold Heap.without
   rw [iN a];exact s.rest k e
 ·by_cases a:k=b
  ·subst a;exact N6 _ _
  ·rw [B9 _ _ a] at e
   unfold Heap.without
   rw [iN a];exact s.dis k y e
def Uf{h g:aD}{b:Nat}(l:h.le g)(hb:h b=none):h.le (g.without b):=fun k x e=>by
 have a:k≠b:=gz0
 unfold Heap.without
 rw [iN a];exact l k x e
def Tab.grab{h g o:aD}{T:Tb}{M:Nat->Nat->Int}{S:Nat->Rat}(t:Tab h g o T M S){b:Nat}{cs:Array aN}{e:aK}(hb:g b=some (.cells cs e))(hc:C14 cs):Tab h (g.without b) (o.put b (.cells cs e)) T M S:=by
 have a:∀ k x,o k=some x->k≠b:=by rintro k x e rfl;rw [t.sep.dis k x e] at hb;cases hb
 refine ⟨t.sep.grab hb,t.n1,t.n2,t.n3,?_,?_,?_,t.cE,t.cS,t.small,t.pos⟩
 ·obtain ⟨e,p⟩:=t.head
  exact ⟨e,by rw [B9 _ _ (a _ _ p)];exact p⟩
 ·obtain ⟨s,⟨f,ex,c⟩,l,d⟩:=t.elems
  refine ⟨s,⟨f,ex,by rw [B9 _ _ (a _ _ c)];exact c⟩,l,fun i j m q=>?_⟩
  obtain ⟨w,e,n⟩:=d i j m q
  exact ⟨w,e,ZI.without hb hc n⟩
 ·obtain ⟨r,⟨f,ex,c⟩,l,d⟩:=t.scales
  refine ⟨r,⟨f,ex,by rw [B9 _ _ (a _ _ c)];exact c⟩,l,fun i m=>?_⟩
  obtain ⟨w,e,n⟩:=d i m
  exact ⟨w,e,RQ.without hb hc n⟩
structure MOk (r c:Int) (n:Nat) (ls:Nat->List UInt8) (rows cols:Nat):Prop where
 er:r=rows
 ec:c=cols
 r1:1<=rows
 r2:rows<=64
 c1:1<=cols
 c2:cols<=64
 len:n=rows*cols
 num:∀ i,i<n->cR (ls i)
def A4p(r c:Int)(n:Nat):Prop:=1<=r/\r<=64/\1<=c/\c<=64/\(n:Int)=r*c
def MOk.of{r c:Int}{n:Nat}{ls:Nat->List UInt8}(s:A4p r c n)(h:∀ i,i<n->cR (ls i)):MOk r c n ls r.toNat c.toNat:=by
 obtain ⟨d,a,f,b,e⟩:=s
 refine ⟨o,o,o,o,o,o,?_,h⟩
 grind
def MOk.shape{r c:Int}{n:Nat}{ls:Nat->List UInt8}{rows cols:Nat}(m:MOk r c n ls rows cols):A4p r c n:=by
 obtain ⟨rfl,rfl,d,a,f,b,e,_⟩:=m
 exact ⟨o,o,o,o,o⟩
abbrev Dx(r c:Int)(A:Option aG)(n cap:Nat):aN:=.agg #[I r,I c,.slice A n cap]
def Mx(r c:Int)(n:Nat)(ls:Nat->List UInt8):Prop:=∃ rows cols,MOk r c n ls rows cols
def A6c{r c:Int}{n:Nat}{ls:Nat->List UInt8}:Mx r c n ls↔A4p r c n/\∀ i,i<n->cR (ls i):=by
 constructor
 ·rintro ⟨a,b,m⟩;exact ⟨m.shape,m.num⟩
 ·rintro ⟨s,h⟩;exact ⟨_,_,MOk.of s h⟩
section
variable {h:aD} {K:VP} {A:Option aG} {n cap m:Nat} {r c:Int} {ls:Nat->List UInt8}
def Ym(hn:n<=1000000000)(hK1:A4p r c n->K (.bool true) h)(hK0:¬ A4p r c n->K (.bool false) h):aI prog 197 #[Dx r c A n cap] h K:=by
 refine (fnk func197 (own:=[1])) ?_
 refine C0 (fun f=>C0 (fun a=>C0 (fun j=>C0 (fun b=>?_) (fun e=>hK0 fun s=>e s.2.2.2.1)) (fun e=>hK0 fun s=>e s.2.2.1)) (fun e=>hK0 fun s=>e s.2.1)) (fun e=>hK0 fun s=>e s.1)
 have i:r*c<=64*64:=Int.mul_le_mul a b o o
 have d:0<=r*c:=cP o o
 have g:C4 (r*c)=r*c:=C1 o o
 rw [g]
 by_cases e:(n:Int)=r*c
 ·rw [show ((n:Int)==r*c)=true from gz0]
  exact hK1 ⟨f,a,j,b,e⟩
 ·rw [show ((n:Int)==r*c)=false from gz0]
  exact hK0 fun s=>e s.2.2.2.2
def V5(gl:Gl h)(rv':RowV SSr h A n ls)(hn:n<=1000000)(hl:LL n ls)
 (hK1:∀ rows cols,MOk r c n ls rows cols->∀ b h',Own RQr h h' b n (fun i=>rv (ls i))->K (.tuple #[.slice (some ⟨b,0,none⟩) n n,.bool true]) h')
 (hK0:¬ Mx r c n ls->∀ h',h.le h'->K (.tuple #[.slice none 0 0,.bool false]) h'):aI prog 150 #[Dx r c A n cap] h K:=by
 refine (fnk func150 (own:=[1])) ?_
 refine Ym o (fun s=>⟨_,rfl,?_⟩) (fun s=>⟨_,rfl,hK0 (fun x=>s (A6c.1 x).1) h (B7 _)⟩)
 refine Cu gl rv' hn hl (fun a b h' w=>⟨_,_,_,_,rfl,hK1 _ _ (MOk.of s a) b h' w⟩) (fun d h' l=>⟨_,_,_,_,rfl,hK0 (fun x=>d (A6c.1 x).2) h' l⟩)
def Jz{f:Nat->Rat}(gl:Gl h)(rq:RowV RQr h A n f)(hn:n<=1000000)(hs:∀ i,i<n->Sz m (f i))(hm:m<=40000000)
 (hK:∀ b h',Own SSr h h' b n (fun i=>E8 (f i))->K (Dx r c (some ⟨b,0,none⟩) n n) h'):aI prog 194 #[I r,I c,.slice A n cap] h K:=by
 refine (fnk func194 (own:=[6])) ?_
 exact V3 gl rq hn hs hm fun b h' w=>⟨_,_,_,rfl,hK b h' w⟩
end
end Go.Proofs.YtkfhdoblhajcbaaGreatDoor
namespace Go.Proofs.YtkfhdoblhajcbaaGreatDoor
set_option maxRecDepth 20000
def ZrE(n c:Nat)(s:ES):Prop:=∀ i j,i<n->s.cs.length<=i->j<c->s.R i j=0
def Vo(n c:Nat)(s:ES)(h:s.cs.length<=n):s.cs.length<=Gg n c s/\Gg n c s<=n/\(Gg n c s<n->s.R (Gg n c s) c≠0)/\(∀ i,s.cs.length<=i->i<Gg n c s->s.R i c=0):=by
 have d:=A5t (fun i=>decide (s.R i c≠0)) (n-s.cs.length) s.cs.length
 have a:=Qy (fun i=>decide (s.R i c≠0)) (n-s.cs.length) s.cs.length
 have b:=Yp (fun i=>decide (s.R i c≠0)) (n-s.cs.length) s.cs.length
 have f:fnd (fun i=>decide (s.R i c≠0)) (n-s.cs.length) s.cs.length=Gg n c s:=rfl
 rw [f] at d a b
 refine ⟨d.1,o,fun j=>?_,fun i g e=>?_⟩
 ·have:=b o;simpa using this
 ·have:=a i g e;simpa using this
def B3x{R:Nat->Nat->Rat}{k c:Nat}(hz:∀ b,b<c->R k b=0):elimE R k c=Bp R k c:=by
 funext a b
 unfold elimE Bp
 by_cases e:a=k
 ·rw [iP e,iP e]
 ·rw [iN e,iN e]
  split
  ·rename_i d
   rcases d with d|d
   ·rw [d];grind
   ·rw [hz b d];grind
  ·rfl
structure EqA (n w c:Nat) (A:Nat->Nat->Rat) (s:ES):Prop where
 len:s.cs.length<=n
 zero:ZrE n c s
 lt:∀ x∈s.cs,x<c
 elim:∃ B,Elim n w B s.R (fun m=>s.cs.getD m 0) s.cs.length/\(∀ i,i<n->∃ i',i'<n/\∀ j,B i' j=A i j)/\(∀ i,i<n->∃ i',i'<n/\∀ j,B i j=A i' j)
 comb:∃ T:Nat->Nat->Rat,∀ i j,i<n->j<w->s.R i j=sm n fun l=>T i l*A l j
def A2u{k l i:Nat}:xch k l (xch k l i)=i:=by unfold xch;repeat' split
                                             all_goals omega
def EqA.start(n w:Nat)(A:Nat->Nat->Rat):EqA n w 0 A ⟨A,[],1⟩:=by
 refine ⟨aP _,fun i j _ _ d=>o,fun x c=>(by cases c),⟨A,Elim.start,fun i a=>⟨i,a,fun _=>rfl⟩,fun i a=>⟨i,a,fun _=>rfl⟩⟩,⟨fun i l=>if l=i then 1 else 0,fun i j a _=>?_⟩⟩
 show A i j=sm n fun l=>(if l=i then (1:Rat) else 0)*A l j
 rw [V4 a fun l _ b=>by rw [iN b,cW],iP rfl,Rat.one_mul]
def EqA.step{n w c:Nat}{A:Nat->Nat->Rat}{s:ES}(h:EqA n w c A s)(hc:c<w):EqA n w (c+1) A (Y8 n c s):=by
 obtain ⟨L,f2,f3,f4⟩:=Vo n c s h.len
 unfold Y8
 by_cases z:s.cs.length<n
 ·rw [iP z]
  by_cases q:Gg n c s<n
  ·rw [iP q]
   have F:=f3 q
   generalize Gg n c s=r at *
   obtain ⟨B,E,G,M⟩:=h.elim
   obtain ⟨T,O⟩:=h.comb
   have X:∀ b,b<c->s.R r b=0:=fun b H=>h.zero r b q L H
   have C:=If s.cs.length r
   have p:∀ i,i<n->xch s.cs.length r i<n:=fun i d=>Gc z q d
   have u:(s.cs++[c]).length=s.cs.length+1:=by simp
   have Q:elimE (fun i=>s.R (xch s.cs.length r i)) s.cs.length c=Bp (fun i=>s.R (xch s.cs.length r i)) s.cs.length c:=B3x fun b H=>by rw [C];exact X b H
   refine ⟨by show (s.cs++[c]).length<=n;omega,fun i j d k y=>?_,fun x a=>?_,⟨fun i=>B (xch s.cs.length r i),?_,fun i d=>?_,fun i d=>?_⟩,?_⟩
   ·show elimE (fun i=>s.R (xch s.cs.length r i)) s.cs.length c i j=0
    have S:s.cs.length+1<=i:=by have:(s.cs++[c]).length<=i:=k;omega
    have D:=A8d (i:=i) L (show s.cs.length<=i from o)
    unfold elimE
    rw [iN o]
    simp only [C]
    by_cases e:j=c
    ·subst e
     split
     ·rename_i t
      rcases t with t|t
      ·exact t
      ·omega
     ·grind
    ·rw [iP (.inr o)]
     exact h.zero _ j (p i d) D o
   ·rcases List.mem_append.1 a with a|a
    ·have:=h.lt x a;omega
    ·simp at a;omega
   ·show Elim n w _ (elimE (fun i=>s.R (xch s.cs.length r i)) s.cs.length c) _ (s.cs++[c]).length
    rw [Q,u]
    refine ((E.swap L q).cs_congr fun m hm=>(Mq s.cs c m hm).symm).step z hc (A1p _ _) ?_
    show s.R (xch s.cs.length r s.cs.length) c≠0
    rw [C];exact F
   ·obtain ⟨N,t,W⟩:=G i d
    exact ⟨xch s.cs.length r N,p N t,fun j=>by show B (xch _ _ (xch _ _ N)) j=_;rw [A2u];exact W j⟩
   ·exact M _ (p i d)
   ·refine ⟨fun i l=>if i=s.cs.length then T r l/s.R r c else T (xch s.cs.length r i) l-s.R (xch s.cs.length r i) c*(T r l/s.R r c),fun i j d y=>?_⟩
    show elimE (fun i=>s.R (xch s.cs.length r i)) s.cs.length c i j=_
    rw [Q]
    unfold Bp
    simp only [C]
    have t1:sm n (fun l=>T r l/s.R r c*A l j)=s.R r j/s.R r c:=by
     rw [O r j q y,cC,bH _ (s.R r c)⁻¹,<- J7]
     exact C5 fun l _=>by rw [cC];grind
    by_cases e:i=s.cs.length
    ·simp only [iP e]
     exact t1.symm
    ·simp only [iN e]
     have V:=O (xch s.cs.length r i) j (p i d) y
     rw [<- t1,V,<- J7]
     have:∀ f g:Nat->Rat,sm n f-sm n g=sm n fun l=>f l-g l:=fun f g=>by
      rw [Rat.sub_eq_add_neg,<- Jd,<- Ce]
      exact C5 fun l _=>(Rat.sub_eq_add_neg _ _).symm
     rw [this]
     exact C5 fun l _=>by grind
  ·rw [iN q]
   refine ⟨h.len,fun i j d k y=>?_,fun x a=>by have:=h.lt x a;omega,h.elim,h.comb⟩
   show s.R i j=0
   by_cases e:j=c
   ·rw [e];exact f4 i k o
   ·exact h.zero i j d k o
 ·rw [iN z]
  exact ⟨h.len,fun i j d k y=>o,fun x a=>by have:=h.lt x a;omega,h.elim,h.comb⟩
def EqA.run{n w:Nat}(A:Nat->Nat->Rat):∀ c,c<=w->EqA n w c A (Nq n ⟨A,[],1⟩ c):=by
 intro c
 induction c with
 | zero=>exact fun _=>EqA.start n w A
 | succ c ih=>exact fun a=>(ih o).step o
def Vn(x:Nat->Rat)(f:Nat->Rat):Nat->List Nat->Nat->Rat
 | _,[]=>x
 | i,c::cs=>Vn (fun j=>if j=c then f i else x j) f (i+1) cs
def A6l(f:Nat->Rat):∀ (cs:List Nat) (x:Nat->Rat) (i j:Nat),j∉cs->Vn x f i cs j=x j:=by
 intro cs
 induction cs with
 | nil=>intros;rfl
 | cons c cs ih=>
  intro x i j a
  rw [Vn,ih _ _ _ fun h=>a (List.mem_cons_of_mem _ h)]
  show (if j=c then f i else x j)=x j
  rw [iN fun e=>a (by rw [e];exact List.mem_cons_self ..)]
def A8x(f g:Nat->Rat){w:Nat}{cs:List Nat}(nd:cs.Nodup)(hlt:∀ x∈cs,x<w):sm w (fun j=>g j*Vn (fun _=>0) f 0 cs j)=sm cs.length fun m=>g (cs.getD m 0)*f m:=by
 induction hl:cs.length generalizing cs with
 | zero=>
  have:cs=[]:=cG hl
  subst this
  rw [sm]
  exact Q5 fun j _=>by show g j*(0:Rat)=0;exact aY _
 | succ k ih=>
  obtain ⟨ds,d,rfl⟩:∃ ds d,cs=ds++[d]:=⟨cs.dropLast,cs.getLast (by intro e;rw [e] at hl;cases hl),(List.dropLast_concat_getLast _).symm⟩
  have a:ds.length=k:=by simpa using hl
  rw [List.nodup_append] at nd
  have q:d∉ds:=fun h=>nd.2.2 d h d (by simp) rfl
  have r:∀ j,Vn (fun _=>0) f 0 (ds++[d]) j=(if j=d then f k else 0)+Vn (fun _=>0) f 0 ds j:=by
   intro j
   have key:∀ (l:List Nat) (x:Nat->Rat) (i:Nat),d∉l->Vn x f i (l++[d]) j=if j=d then f (i+l.length) else Vn x f i l j:=by
    intro l
    induction l with
    | nil=>intro x i _;rfl
    | cons c l ih=>
     intro x i p
     rw [List.cons_append,Vn,ih _ _ fun h=>p (List.mem_cons_of_mem _ h),Vn,List.length_cons]
     have:i+1+l.length=i+(l.length+1):=o
     rw [this]
   rw [key ds _ 0 q,aJ,a]
   by_cases e:j=d
   ·rw [iP e,iP e,e,A6l f ds _ _ _ q];exact (aV _).symm
   ·rw [iN e,iN e];exact (cX _).symm
  have t:sm w (fun j=>g j*Vn (fun _=>0) f 0 (ds++[d]) j)=sm w (fun j=>g j*(if j=d then f k else 0))+sm w fun j=>g j*Vn (fun _=>0) f 0 ds j:=by
   rw [<- Ce];exact C5 fun j _=>by rw [r];grind
  have n:d<w:=hlt d (by simp)
  rw [t,ih nd.1 (fun x u=>hlt x (by simp [u])) a,V4 n fun j _ b=>by rw [iN b,aY],iP rfl,sm]
  have s:(ds++[d]).getD k 0=d:=by rw [<- a];exact A1p _ _
  rw [s,Rat.add_comm]
  congr 1
  exact C5 fun m y=>by rw [Mq ds d m o]
def EqA.none{n w:Nat}{A:Nat->Nat->Rat}{s:ES}(h:EqA n (w+1) w A s){i:Nat}(hi:i<n)(hk:s.cs.length<=i)(hne:s.R i w≠0):∃ y:Nat->Rat,(∀ j,j<w->sm n (fun l=>y l*A l j)=0)/\sm n (fun l=>y l*A l w)=1:=by
 obtain ⟨T,c⟩:=h.comb
 have b:∀ j,j<w+1->sm n (fun l=>T i l/s.R i w*A l j)=s.R i j/s.R i w:=by
  intro j a
  rw [c i j hi a,cC,bH _ (s.R i w)⁻¹,<- J7]
  exact C5 fun l _=>by rw [cC];grind
 refine ⟨fun l=>T i l/s.R i w,fun j a=>?_,?_⟩
 ·rw [b j o,h.zero i j hi hk a];grind
 ·rw [b w o];grind
def EqA.sol{n w:Nat}{A:Nat->Nat->Rat}{s:ES}(h:EqA n (w+1) w A s)(nd:s.cs.Nodup)(h0:∀ i,i<n->s.cs.length<=i->s.R i w=0){i:Nat}(hi:i<n):sm w (fun j=>A i j*Vn (fun _=>0) (fun m=>s.R m w) 0 s.cs j)=A i w:=by
 obtain ⟨B,E,d,_⟩:=h.elim
 obtain ⟨a,b,e⟩:=d i hi
 rw [A8x _ _ nd h.lt]
 rw [<- e w,C5 (g:=fun m=>B a (s.cs.getD m 0)*s.R m w) fun m _=>by rw [e]]
 by_cases c:a<s.cs.length
 ·exact (E.top a w c o).symm
 ·rw [E.bot a w b o o,h0 a b o,cX]
def mtx(E:Nat->Rat)(cols:Nat):Nat->Nat->Rat:=fun i j=>E (i*cols+j)
def elE(E:Nat->Rat)(rows cols c:Nat):ES:=Nq rows ⟨mtx E cols,[],1⟩ c
def elP(E:Nat->Rat)(rows cols c:Nat):PS:=Ha rows ⟨A37 E cols,Uk E cols,[],1,1⟩ c
def A1z(E:Nat->Rat){rows cols c:Nat}(hc:c<=cols):ERel rows cols c (mtx E cols) (elE E rows cols c) (elP E rows cols c):=
 (ERel.start (fun i j _ a=>B5o E cols i a) (fun i _=>by have:=Qt E cols i;grind)).run c hc
def A4c(E:Nat->Rat){rows cols c:Nat}(hc:c<=cols):(elP E rows cols c).cs=(elE E rows cols c).cs:=(A1z E hc).cs.symm
def A5z(E:Nat->Rat){rows cols c:Nat}(hc:c<=cols){i j:Nat}(hi:i<rows)(hj:j<cols)(h:i<(elE E rows cols c).cs.length\/j<c):aW ((elP E rows cols c).M i j) (elP E rows cols c).last=(elE E rows cols c).R i j:=by
 have r:=A1z E hc (rows:=rows)
 have b:=r.val i j hi hj
 have d:=P8 r.last
 rw [bI,b]
 by_cases a:i<(elE E rows cols c).cs.length
 ·grind
 ·rw [iN a,r.zero i j hi o o,aY,aY]
  grind
def bnd(cols m:Nat):Nat:=1+cols*m+m
def C0r{E:Nat->Rat}{rows cols m:Nat}(h:∀ i,i<rows*cols->Sz m (E i)):ZbP rows cols (bnd cols m) (bnd cols m) ⟨A37 E cols,Uk E cols,[],1,1⟩:=by
 have e:∀ i,i<rows->∀ j,j<cols->Sz m (E (i*cols+j)):=fun i g j f=>h _ (R4 g f)
 refine ⟨fun a b d c=>?_,?_,fun a d=>A36 (e a d),aP _⟩
 ·show ZB (3^0*bnd cols m) (A37 E cols a b)
  rw [Nat.pow_zero,cD];exact B5n (e a d) c
 ·show ZB (3^0*bnd cols m) 1
  exact ZB.one (by unfold bnd;omega)
def A1y{E:Nat->Rat}{rows cols m c:Nat}(h:∀ i,i<rows*cols->Sz m (E i))(hc:c<=cols):ZbP rows cols (bnd cols m) (bnd cols m) (elP E rows cols c):=(C0r h).run (by unfold bnd;omega) c hc
def B5c(E:Nat->Rat)(rows cols c:Nat):(elP E rows cols c).cs.length<=c:=B2t _ _ rfl c
def Yx(E:Nat->Rat)(rows cols c:Nat)(x:Nat):3^(elP E rows cols c).cs.length*x<=3^c*x:=aF _ (bC dc (B5c E rows cols c))
def A4b(E:Nat->Rat)(rows cols c:Nat):(elP E rows cols c).last≠0:=(A0j rows _ (show (1:Int)≠0 from dc) (.inl rfl) (aP _) c).1
structure Own2 (h h':aD) (b n:Nat) (f:Nat->List UInt8) (A:Option aG) (cap:Nat) (l:List Int):Prop where
 ex:∃ g o xs,h.le g/\Sep h' g o/\RowX o b xs/\xs.length=n/\Row SSr g xs n f/\OwnSl o 3 A cap l/\A≠some ⟨b,0,none⟩
def Own2.le{h h':aD}{b n:Nat}{f:Nat->List UInt8}{A:Option aG}{cap:Nat}{l:List Int}(w:Own2 h h' b n f A cap l):h.le h':=by
 obtain ⟨g,o,c,a,s,_⟩:=w.ex
 exact B0 a s.le
def Own2.ints{h h':aD}{b n:Nat}{f:Nat->List UInt8}{A:Option aG}{cap:Nat}{l:List Int}(w:Own2 h h' b n f A cap l):SlF h' A l/\l.length<=cap:=by
 obtain ⟨g,o,c,d,s,r,e,q,a,_⟩:=w.ex
 exact ⟨a.slF s.ole,a.1⟩
section
variable {h g o:aD} {T:Tb} {M:Nat->Nat->Int} {S:Nat->Rat}
def Tab.fat(t:Tab h g o T M S){k:Nat}(hk:k<T.rows*T.cols):∃ w:IV,ZIr g w (M (k/T.cols) (k%T.cols))/\o.cell? (aC (aC ⟨T.bE,0,none⟩ (k*2)) 0)=some (.bool w.s)/\o.cell? (aC (aC ⟨T.bE,0,none⟩ (k*2)) 1)=some (.slice w.A w.n w.c):=by
 have a:=t.pos
 have b:k/T.cols<T.rows:=bD gz0
 obtain ⟨w,d,c0,c1⟩:=t.ato b (cM k a)
 have e:k/T.cols*T.cols*2+k%T.cols*2=k*2:=by rw [<- bF,bN (k/T.cols),Nat.div_add_mod]
 rw [D4,D4,e] at c0 c1
 refine ⟨w,d,?_,?_⟩
 ·rw [D4,D4,aJ];exact c0
 ·rw [D4,D4,aJ];exact c1
end
section
variable {h:aD} {K:VP} {A:Option aG} {n cap m:Nat} {r c:Int} {ls:Nat->List UInt8}
abbrev rvs(ls:Nat->List UInt8):Nat->Rat:=fun i=>rv (ls i)
def Pn{E:Nat->Rat}{rows cols cc nq:Nat}(gl:Gl h)(rq:RowV RQr h A (rows*cols) E)(hcap:rows*cols<=cap)(hr:1<=rows)(hr2:rows<=10000)(hc:1<=cols)(hc2:cols<=10000)(hcc:cc<=cols)(hs:∀ i,i<rows*cols->Sz m (E i))(hnq:∀ k,k<=cc->(elP E rows cols k).cs.length<=nq)(hm:2*(3^nq*bnd cols m)+1<=100000000){K:VP}
 (hK:∀ T h1,aI prog 152 #[.pointer (some ⟨T.bt,0,none⟩),I (cc:Int)] h1 (fun r h'=>∃ g' o' A' cap' w,h.le g'/\Tab h' g' o' T (elP E rows cols cc).M (elP E rows cols cc).S/\OwnSl o' 3 A' cap' (zs (elP E rows cols cc).cs)/\B4l T A'/\ZIr g' w (elP E rows cols cc).last/\
  r= .tuple #[.slice A' (elP E rows cols cc).cs.length cap',w.v,I (elP E rows cols cc).sgn])->h.le h1->T.rows=rows->T.cols=cols->K (.pointer (some ⟨T.bt,0,none⟩)) h1):aI prog 151 #[.slice A (rows*cols) cap,I (cols:Int)] h K:=by
 have h1:bnd cols m<=3^nq*bnd cols m:=Nat.le_mul_of_pos_left _ (Nat.pow_pos dc)
 have j:bnd cols m=1+cols*m+m:=rfl
 refine Lw (m:=m) gl rq hcap hr hr2 hc hc2 hs o ?_
 intro h' g' o' T f t b s
 refine hK T h' ?_ (B0 f t.sep.le) b s
 have u:=C0r hs
 refine A0q (m:=bnd cols m) (l:=bnd cols m) t o o (by rw [b];exact hnq) hm gz0 ?_
 intro j g q A2 a w n c e p ko d
 rw [b] at c e d ⊢
 exact ⟨g,q,A2,a,w,B0 f n,c,e,p,d,rfl⟩
def Jq{E:Nat->Rat}{rows cols cc:Nat}(gl:Gl h)(rq:RowV RQr h A (rows*cols) E)(hcap:rows*cols<=cap)(hr:1<=rows)(hr2:rows<=10000)(hc:1<=cols)(hc2:cols<=10000)(hcc:cc<=cols)(hs:∀ i,i<rows*cols->Sz m (E i))(hm:2*(3^cc*bnd cols m)+1<=100000000){K:VP}
 (hK:∀ T h1,aI prog 152 #[.pointer (some ⟨T.bt,0,none⟩),I (cc:Int)] h1 (fun r h'=>∃ g' o' A' cap' w,h.le g'/\Tab h' g' o' T (elP E rows cols cc).M (elP E rows cols cc).S/\OwnSl o' 3 A' cap' (zs (elP E rows cols cc).cs)/\B4l T A'/\ZIr g' w (elP E rows cols cc).last/\
  r= .tuple #[.slice A' (elP E rows cols cc).cs.length cap',w.v,I (elP E rows cols cc).sgn])->h.le h1->T.rows=rows->T.cols=cols->K (.pointer (some ⟨T.bt,0,none⟩)) h1):aI prog 151 #[.slice A (rows*cols) cap,I (cols:Int)] h K:=Pn gl rq hcap hr hr2 hc hc2 hcc hs (fun k a=>cY (B5c E rows cols k) a) hm hK
def A75(gl:Gl h)(rv':RowV SSr h A n ls)(hn:n<=1000000)(hl:LL n ls)(hs:∀ i,i<n->Sz m (rv (ls i)))(hb:∀ rows cols,MOk r c n ls rows cols->2*(3^cols*bnd cols m)+1<=100000000)
 (hK1:∀ rows cols,MOk r c n ls rows cols->∀ h',h.le h'->K (.tuple #[I ((elE (rvs ls) rows cols cols).cs.length:Int),I 0]) h')
 (hK0:¬ Mx r c n ls->∀ h',h.le h'->K (.tuple #[I 0,I 1]) h'):aI prog 109 #[Dx r c A n cap] h K:=by
 refine (fnk func109 (os:=[(4,[0,1,2,4,5,11,3,6,7,8,9,10,12,13,14])]) (own:=[1,7]) (wr:=[152])) ?_
 refine V5 gl rv' hn hl ?_ ?_
 ·intro rows cols mk b f own
  have e:=hb rows cols mk
  obtain ⟨rfl,rfl,t,q,u,l,rfl,j⟩:=id mk
  refine ⟨_,_,_,_,rfl,?_⟩
  refine Jq (E:=rvs ls) (cc:=cols) (m:=m) (gl.mono own.le) (own.vis G2) (aE _) o o o o (aE _) hs e ?_
  intro T D a z L F
  refine ⟨_,rfl,z,?_⟩
  refine FCall.mono a ?_
  rintro C s ⟨N,G,A3,g,w,p,k,H,M,B,rfl⟩
  refine ⟨_,_,_,_,_,_,_,_,rfl,?_⟩
  rw [A4c _ (aE _)]
  exact hK1 rows cols mk s (B0 own.le (B0 p k.sep.le))
 ·intro d f y
  exact ⟨_,_,_,_,rfl,hK0 d f y⟩
end
def B8q(E:Nat->Rat)(rows cols:Nat):Nat->Rat:=fun k=>(elE E rows cols cols).R (k/cols) (k%cols)
def Own2.of{h g o g5 h7:aD}{b n:Nat}{f:Nat->List UInt8}{A:Option aG}{cap:Nat}{l:List Int}(s:Sep h7 g5 o)(lh:h.le g)(ow:OwnSl o 3 A cap l)(w:Own SSr g g5 b n f):Own2 h h7 b n f A cap l:=by
 obtain ⟨p,a,q,u,c,d,z,i⟩:=w.ex
 have m:∀ k x,a k=some x->(o.join a) k=some x:=fun k x e=>by show (match a k with|some x=>some x|none=>o k)=_;rw [e]
 have F:∀ k,a k=none->(o.join a) k=o k:=fun k e=>by show (match a k with|some x=>some x|none=>o k)=_;rw [e]
 have B:∀ k x,o k=some x->a k=none:=by
  intro k x e
  cases ho:a k with
  | none=>rfl
  | some y=>have:=s.dis k x e;rw [c.own k y ho] at this;cases this
 refine ⟨p,o.join a,q,B0 lh u,s.join c,d.keep (fun x e=>m b x e),z,i,ow.keep fun k x _ e=>gz0,fun G=>?_⟩
 obtain ⟨e,E⟩:=d
 rcases ow.2 with ⟨_,C⟩|⟨D,t,r,j,_⟩
 ·grind
 grind
def Vx(o:aD)(A:Option aG):aD:=fun k=>if A=some ⟨k,0,none⟩ then o k else none
def B02(o:aD)(A:Option aG):(Vx o A).le o:=fun k x e=>by
 unfold Vx at e
 grind
def OwnSl.only{α:Type}[E:Enc α]{o:aD}{e:aK}{A:Option aG}{c:Nat}{xs:List α}(w:OwnSl o e A c xs):OwnSl (Vx o A) e A c xs:=w.keep fun b x a d=>by unfold Vx;grind
def A3w(o:aD){A:Option aG}{k:Nat}(h:A≠some ⟨k,0,none⟩):Vx o A k=none:=by unfold Vx;grind
section
variable {h:aD} {K:VP} {A:Option aG} {n cap m:Nat} {r c:Int} {ls:Nat->List UInt8}
def A1c(gl:Gl h)(rv':RowV SSr h A n ls)(hn:n<=1000000)(hl:LL n ls)(hs:∀ i,i<n->Sz m (rv (ls i)))(hb:∀ rows cols,MOk r c n ls rows cols->2*(3^cols*bnd cols m)+1<=40000000)
 (hK1:∀ rows cols,MOk r c n ls rows cols->∀ b h' A' cap',Own2 h h' b n (fun k=>E8 (B8q (rvs ls) rows cols k)) A' cap' (zs (elE (rvs ls) rows cols cols).cs)->K (.tuple #[Dx r c (some ⟨b,0,none⟩) n n,.slice A' (elE (rvs ls) rows cols cols).cs.length cap',I 0]) h')
 (hK0:¬ Mx r c n ls->∀ h',h.le h'->K (.tuple #[Dx 0 0 none 0 0,.slice none 0 0,I 1]) h'):aI prog 146 #[Dx r c A n cap] h K:=by
 refine (fnk func146 [(7,[38],[],[I 0])] (own:=[1,2,9,12]) (wr:=[152])) ?_
 refine V5 gl rv' hn hl ?_ ?_
 ·intro rows cols mk b h1 own
  have V:=hb rows cols mk
  obtain ⟨rfl,rfl,a4,a0,a1,a3,rfl,av⟩:=id mk
  have ol:=own.le
  have ov:=own.vis G2
  obtain ⟨g1,o1,l,W,s1,rx,hx,rr⟩:=own.ex
  obtain ⟨e1,ad⟩:=id rx
  refine ⟨_,_,_,_,rfl,?_⟩
  refine Jq (E:=rvs ls) (cc:=cols) (m:=m) (gl.mono ol) ov (aE _) oo oo oo oo (aE _) hs oo ?_
  intro T h2 Q l2 a5 ae
  refine ⟨_,rfl,?_⟩
  refine FCall.mono Q ?_
  rintro r3 h3 ⟨g3,o3,A3,d,w,l3,t3,ow,ap,iw,rfl⟩
  refine ⟨_,_,_,_,_,_,_,_,rfl,_,rfl,_,_,_,t3.c1,?_⟩
  have j:=A1y (E:=rvs ls) (rows:=rows) (c:=cols) hs (aE _)
  have az:=Yx (rvs ls) rows cols cols (bnd cols m)
  have t:=A4b (rvs ls) rows cols cols
  have p:∀ k,k<rows*cols->aW ((elP (rvs ls) rows cols cols).M (k/cols) (k%cols)) (elP (rvs ls) rows cols cols).last=B8q (rvs ls) rows cols k:=by
   intro k D
   have X:k/cols<rows:=bD gz0
   have C:=cM k (show 0<cols from oo)
   exact A5z (rvs ls) (aE _) X C (.inr C)
  rw [A4c _ (aE _)] at ow ⊢
  generalize elP (rvs ls) rows cols cols=st at *
  have a:g3 b=some (.cells (l.flatMap enc).toArray e1):=l3 _ _ (s1.own _ _ ad)
  have an:A3≠some ⟨b,0,none⟩:=by
   intro hA
   rcases ow.2 with ⟨_,h0⟩|⟨b',ay,u,V,_⟩
   ·grind
   ·rw [hA] at u
    simp only [aL,aS,and_true] at u
    subst u
    rw [t3.sep.dis _ _ V] at a;cases a
  have al:∀ k x,o3 k=some x->k≠b:=by rintro k x e rfl;rw [t3.sep.dis k x e] at a;cases a
  have t4:=t3.grab a (A16 l)
  have ak:ZI (g3.without b) w.s w.A w.n w.c st.last:=ZI.without a (A16 l) iw
  have H:g1.le (g3.without b):=Uf (B0 s1.le l3) (s1.dis _ _ ad)
  have am:OwnSl (o3.put b (.cells (l.flatMap enc).toArray e1)) 3 A3 d (zs (elE (rvs ls) rows cols cols).cs):=ow.keep fun k x _ e=>by rw [B9 _ _ (al k x e)];exact e
  have ah:RowX (o3.put b (.cells (l.flatMap enc).toArray e1)) b l:=RowX.mk
  generalize g3.without b=g4 at *
  generalize o3.put b (.cells (l.flatMap enc).toArray e1)=o4 at *
  have nb:b≠T.bt/\b≠T.bE/\b≠T.bS:=by
   obtain ⟨⟨x1,y1⟩,⟨x2,y2⟩,⟨x3,y3⟩⟩:=t3.own
   grind
  refine ⟨fun L hp=>∃ (k:Nat) (g o:aD) (G:List QV),k<=rows*cols/\L=[I (k:Int)]/\g4.le g/\Tab hp g o T st.M st.S/\RowX o b G/\G.length=rows*cols/\Row RQr g G k (B8q (rvs ls) rows cols)/\(∀ f,f≠b->o f=o4 f),fun L _=>rows*cols-(iAt L 0).toNat,⟨0,g4,o4,l,oo,rfl,B7 _,t4,ah,hx,Row.nil,fun _ _=>rfl⟩,?_⟩
  rintro z hp ⟨k,g5,o5,G,D,eL,l5,B,ac,hy,aa,ax⟩
  obtain rfl:z=(k:Int):=gz0
  refine C0 (fun aj=>?_) (fun a2=>?_)
  ·have q:k<rows*cols:=gz0
   obtain ⟨w5,z5,c0,c1⟩:=B.fat (k:=k) oo
   rw [ae] at z5
   have X:k/cols<rows:=bD gz0
   have C:=cM k (show 0<cols from oo)
   refine ⟨_,rfl,oo,aj,_,_,_,_,B.sep.cell c0,B.sep.cell c1,?_⟩
   refine B.sep.call (O5 (gl.mono (B0 W (B0 H l5))).tz z5 (ak.mono l5) (j.M _ _ X C) j.last oo ?_)
   intro w6 O F i6 h6 s6
   rw [p k q] at i6
   refine ⟨_,_,_,_,_,_,_,_,rfl,_,rfl,oo,oo,?_⟩
   refine Q1 Fi (y:=w6) rfl s6 ac (i:=k) oo ?_
   intro h7 o7 x7 eo s7 ar
   have ko:∀ f,f≠b->o7 f=o5 f:=fun f D=>by rw [eo,B9 _ _ D]
   rw [wiS k oo]
   refine ⟨⟨k+1,O,o7,_,oo,rfl,B0 l5 F,B.keep s7 F (fun f x e aw=>by
    grind),ar,gz0,(aa.mono G2 F).set oo i6,fun f D=>gz0⟩,by simp only [R9];omega⟩
  ·have q:k=rows*cols:=gz0
   subst q
   have ag:OwnSl o5 3 A3 d (zs (elE (rvs ls) rows cols cols).cs):=am.keep fun f x hA e=>by grind
   obtain ⟨O,F,s6⟩:=B.sep.give (B02 o5 A3)
   obtain ⟨e5,aq⟩:=id ac
   have ao:O b=some (.cells (G.flatMap enc).toArray e5):=by
    rw [<- s6.rest b (A3w o5 an)]
    exact B.sep.own _ _ aq
   have au:RowV RQr O (some ⟨b,0,none⟩) (rows*cols) (B8q (rvs ls) rows cols):=⟨G,(RowX.rowB ⟨e5,ao⟩).slF (B7 _),hy,aa.mono G2 F⟩
   have R:h.le O:=B0 W (B0 H (B0 l5 F))
   have af:∀ k,k<rows*cols->Sz (3^st.cs.length*bnd cols m) (B8q (rvs ls) rows cols k):=by
    intro k D
    have X:k/cols<rows:=bD gz0
    have C:=cM k (show 0<cols from oo)
    rw [<- p k D]
    exact T3 t (j.M _ _ X C) j.last
   refine s6.call (Jz (gl.mono R) au hn af oo ?_)
   intro b2 g7 N h7 s7
   exact ⟨_,_,_,_,_,rfl,hK1 rows cols mk b2 h7 A3 d (Own2.of s7 R ag.only N)⟩
 ·intro ai h1 l1
  exact ⟨_,_,_,_,rfl,hK0 ai h1 l1⟩
end
def A03:E8 0=[48]:=by rfl
section
variable {h:aD} {K:VP} {A:Option aG} {n cap m:Nat} {r c:Int} {ls:Nat->List UInt8}
end
structure HV where
 A:Option aG
 n:Nat
 c:Nat
abbrev HV.v(s:HV):aN:=.slice s.A s.n s.c
instance:Enc HV:=⟨⟨fun s=>[.slice s.A s.n s.c],1,fun _=>rfl,fun s v hv=>by rw [List.mem_singleton.1 hv];rfl⟩⟩
def RowsV(h:aD)(A:Option aG)(n w:Nat)(M:Nat->Nat->Rat):Prop:=∃ hd:List HV,SlF h A hd/\hd.length=n/\∀ i,i<n->∃ s,hd[i]? = some s/\s.n=w/\w<=s.c/\RowV NQr h s.A w (M i)
def RowsV.mono{h h':aD}{A:Option aG}{n w:Nat}{M:Nat->Nat->Rat}(l:h.le h')(r:RowsV h A n w M):RowsV h' A n w M:=by
 obtain ⟨a,s,e,r⟩:=r
 refine ⟨a,s.mono l,e,fun i f=>?_⟩
 obtain ⟨s,b,d,c,r⟩:=r i f
 exact ⟨s,b,d,c,r.mono Q6 l⟩
def RowsV.congr{h:aD}{A:Option aG}{n w:Nat}{M M':Nat->Nat->Rat}(r:RowsV h A n w M)(e:∀ i j,i<n->j<w->M i j=M' i j):RowsV h A n w M':=by
 obtain ⟨c,s,a,r⟩:=r
 refine ⟨c,s,a,fun i b=>?_⟩
 obtain ⟨s,a,g,d,r⟩:=r i b
 exact ⟨s,a,g,d,r.congr fun j f=>e i j b f⟩
def RowsV.at{h:aD}{A:Option aG}{n w:Nat}{M:Nat->Nat->Rat}(r:RowsV h A n w M){i:Nat}(hi:i<n):∃ (a:aG) (s:HV),A=some a/\s.n=w/\w<=s.c/\h.cell? (aC a (i*1))=some (.slice s.A s.n s.c)/\RowV NQr h s.A w (M i):=by
 obtain ⟨b,s,e,r⟩:=r
 obtain ⟨u,l,k,d,r⟩:=r i hi
 obtain ⟨a,f,j⟩:=SlF.at dc s (i:=i) o
 have g:b[i]=u:=by
  grind
 have:=j 0 _ (by rw [g];rfl)
 exact ⟨a,u,f,k,d,this,r⟩
structure Mt (h g o:aD) (bo:Nat) (rb:Nat->Nat) (n w:Nat) (M:Nat->Nat->Rat):Prop where
 sep:Sep h g o
 hd:∃ hd:List HV,RowB o bo hd/\hd.length=n/\∀ i,i<n->∃ c,hd[i]? = some ⟨some ⟨rb i,0,none⟩,w,c⟩/\w<=c
 nb:∀ i,i<n->rb i≠bo
 inj:∀ i j,i<n->j<n->rb i=rb j->i=j
 row:∀ i,i<n->∃ xs:List QV,RowB o (rb i) xs/\xs.length=w/\Row NQr g xs w (M i)
section
variable {h g o:aD} {bo n w:Nat} {rb:Nat->Nat} {M:Nat->Nat->Rat}
def Mt.next(t:Mt h g o bo rb n w M){h' g':aD}(s:Sep h' g' o)(l:g.le g'):Mt h' g' o bo rb n w M:=by
 refine ⟨s,t.hd,t.nb,t.inj,fun i b=>?_⟩
 obtain ⟨a,r,e,q⟩:=t.row i b
 exact ⟨a,r,e,q.mono Q6 l⟩
def Mt.congr(t:Mt h g o bo rb n w M){M':Nat->Nat->Rat}(e:∀ i j,i<n->j<w->M i j=M' i j):Mt h g o bo rb n w M':=by
 refine ⟨t.sep,t.hd,t.nb,t.inj,fun i a=>?_⟩
 obtain ⟨c,r,d,q⟩:=t.row i a
 exact ⟨c,r,d,q.congr fun j b=>e i j a b⟩
def Mt.keep(t:Mt h g o bo rb n w M){h' g' o':aD}(s:Sep h' g' o')(l:g.le g')(hk:∀ k x,o k=some x->(k=bo\/∃ i,i<n/\k=rb i)->o' k=some x):Mt h' g' o' bo rb n w M:=by
 refine ⟨s,?_,t.nb,t.inj,fun i d=>?_⟩
 ·obtain ⟨f,⟨e,ex,c⟩,b,a⟩:=t.hd
  exact ⟨f,⟨e,ex,hk _ _ c (.inl rfl)⟩,b,a⟩
 ·obtain ⟨j,⟨e,ex,c⟩,b,a⟩:=t.row i d
  exact ⟨j,⟨e,ex,hk _ _ c (.inr ⟨i,d,rfl⟩)⟩,b,a.mono Q6 l⟩
def Mt.own(t:Mt h g o bo rb n w M):(∃ x,o bo=some x)/\∀ i,i<n->∃ x,o (rb i)=some x:=by
 obtain ⟨c,⟨e,ex,a⟩,_⟩:=t.hd
 refine ⟨⟨_,a⟩,fun i b=>?_⟩
 obtain ⟨d,⟨e,ex,a⟩,_⟩:=t.row i b
 grind
def Mt.rowsV(t:Mt h g o bo rb n w M):RowsV h (some ⟨bo,0,none⟩) n w M:=by
 obtain ⟨b,r,e,q⟩:=t.hd
 refine ⟨b,r.slF t.sep.ole,e,fun i a=>?_⟩
 obtain ⟨c,f,m⟩:=q i a
 obtain ⟨j,l,k,d⟩:=t.row i a
 exact ⟨_,f,rfl,m,j,l.slF t.sep.ole,k,d.mono Q6 t.sep.le⟩
def Mt.head(t:Mt h g o bo rb n w M){i:Nat}(hi:i<n):∃ c,w<=c/\o.cell? (aC ⟨bo,0,none⟩ (i*1))=some (.slice (some ⟨rb i,0,none⟩) w c):=by
 obtain ⟨a,r,e,q⟩:=t.hd
 obtain ⟨c,f,b⟩:=q i hi
 refine ⟨c,b,?_⟩
 have d:a[i]=⟨some ⟨rb i,0,none⟩,w,c⟩:=by
  grind
 rw [D4,aJ]
 exact r.cell (i:=i) oo (j:=0) (by rw [d];rfl)
def Mt.elem(t:Mt h g o bo rb n w M){i j:Nat}(hi:i<n)(hj:j<w):∃ x:QV,NQ g x (M i j)/\o.cell? (aC (aC ⟨rb i,0,none⟩ (j*4)) 0)=some (.bool x.s)/\o.cell? (aC (aC ⟨rb i,0,none⟩ (j*4)) 1)=some (.slice x.A x.n x.c)/\o.cell? (aC (aC ⟨rb i,0,none⟩ (j*4)) 2)=some (.bool x.s2)/\o.cell? (aC (aC ⟨rb i,0,none⟩ (j*4)) 3)=some (.slice x.A2 x.n2 x.c2):=by
 obtain ⟨b,r,e,q⟩:=t.row i hi
 obtain ⟨x,f,a⟩:=q j hj
 have cell:∀ k v,(enc x)[k]? = some v->o.cell? (aC (aC ⟨rb i,0,none⟩ (j*4)) k)=some v:=by
  intro k v d
  rw [D4,D4,aJ]
  exact r.cell (i:=j) oo (j:=k) gz0
 exact ⟨x,a,cell 0 _ rfl,cell 1 _ rfl,cell 2 _ rfl,cell 3 _ rfl⟩
def B87(M:Nat->Nat->Rat)(i j:Nat)(q:Rat):Nat->Nat->Rat:=fun a b=>if a=i/\b=j then q else M a b
def Mt.store(t:Mt h g o bo rb n w M){i j:Nat}(hi:i<n)(hj:j<w){x:QV}{q:Rat}(hx:NQ g x q){K:Unit->aD->Prop}
 (k:∀ h' o',Mt h' g o' bo rb n w (B87 M i j q)->(∀ k,k≠rb i->o' k=o k)->K () h'):wpH prog (aH 37 (.pointer (some (aC ⟨rb i,0,none⟩ (j*4)))) x.v) K h:=by
 obtain ⟨H,r,e,F⟩:=t.row i hi
 rw [D4,aJ]
 refine Sep.store (E:=inferInstanceAs (Enc QV)) A0d (v:=x.v) (y:=x) rfl t.sep r (i:=j) oo rfl ?_
 intro h' o' L c m u
 refine k h' o' ⟨m,?_,t.nb,t.inj,fun a d=>?_⟩ (fun k p=>by rw [c,B9 _ _ p])
 ·obtain ⟨l,D,C,A⟩:=t.hd
  exact ⟨l,by rw [c];exact D.other (t.nb i hi).symm _,C,A⟩
 ·by_cases f:a=i
  ·subst f
   refine ⟨_,u,gz0,?_⟩
   refine (Row.upd F (k:=j) oo hx).congr fun b _=>?_
   unfold B87
   grind
  ·obtain ⟨z,G,B,s⟩:=t.row a d
   refine ⟨z,by rw [c];exact G.other (fun e=>f (t.inj a i d hi e)) _,B,s.congr fun b _=>?_⟩
   unfold B87
   grind
def Mt.swap{P:aU}(t:Mt h g o bo rb n w M){i k:Nat}(hi:i<n)(hk:k<n){t':aK}(one:P.cellsOf t'=1/\(P.info? t').isSome=true){ci ck:Nat}(hci:o.cell? (aC ⟨bo,0,none⟩ (i*1))=some (.slice (some ⟨rb i,0,none⟩) w ci))(hck:o.cell? (aC ⟨bo,0,none⟩ (k*1))=some (.slice (some ⟨rb k,0,none⟩) w ck))(hcw:w<=ci)(hcw2:w<=ck){X:Unit->aD->Prop}
 (xx:∀ h1,(∀ {K:Unit->aD->Prop},(∀ h' o',Mt h' g o' bo (fun a=>rb (xch i k a)) n w (fun a=>M (xch i k a))->(∀ k,k≠bo->o' k=o k)->K () h')->wpH P (aH t' (.pointer (some (aC ⟨bo,0,none⟩ (i*1)))) (.slice (some ⟨rb k,0,none⟩) w ck)) K h1)->X () h1):
 wpH P (aH t' (.pointer (some (aC ⟨bo,0,none⟩ (k*1)))) (.slice (some ⟨rb i,0,none⟩) w ci)) X h:=by
 obtain ⟨N,r,e,q⟩:=t.hd
 rw [D4,aJ]
 refine Sep.store (E:=inferInstanceAs (Enc HV)) one (v:=.slice (some ⟨rb i,0,none⟩) w ci) (y:=(⟨some ⟨rb i,0,none⟩,w,ci⟩:HV)) rfl t.sep r (i:=k) oo rfl ?_
 intro h1 Q T u G B
 refine xx h1 (fun {K} kk=>?_)
 rw [D4,aJ]
 refine Sep.store (E:=inferInstanceAs (Enc HV)) one (v:=.slice (some ⟨rb k,0,none⟩) w ck) (y:=(⟨some ⟨rb k,0,none⟩,w,ck⟩:HV)) rfl G B (i:=i) gz0 rfl ?_
 intro p A R z C L
 have ko:∀ b,b≠bo->A b=o b:=fun b f=>by rw [z,B9 _ _ f,u,B9 _ _ f]
 have m:∀ a,a<n->xch i k a<n:=fun a d=>Gc hi hk d
 have j:∀ a b,xch i k a=xch i k b->a=b:=fun a b h=>by rw [<- A2u (k:=i) (l:=k) (i:=a),h,A2u]
 refine kk p A ⟨C,⟨_,L,gz0,fun a d=>?_⟩,fun a d=>t.nb _ (m a d),fun a b d f h=>j a b (t.inj _ _ (m a d) (m b f) h),fun a d=>?_⟩ ko
 ·by_cases S:a=i
  ·exact ⟨ck,by unfold xch;grind,hcw2⟩
  ·by_cases O:a=k
   ·exact ⟨ci,by unfold xch;grind,hcw⟩
   ·obtain ⟨c,h1,p⟩:=q a d
    exact ⟨c,by unfold xch;grind,p⟩
 ·obtain ⟨F,H,ex,D⟩:=t.row _ (m a d)
  obtain ⟨e,s,f⟩:=H
  exact ⟨F,⟨e,s,by rw [ko _ (t.nb _ (m a d))];exact f⟩,ex,D⟩
end
def RWr(w:Nat):aD->HV->(Nat->Rat)->Prop:=fun h s f=>s.n=w/\w<=s.c/\RowV NQr h s.A w f
def A77(w:Nat):Mon (RWr w):=fun _ _ _ _ l i=>⟨i.1,i.2.1,i.2.2.mono Q6 l⟩
def RowsV.of{h:aD}{A:Option aG}{n w:Nat}{M:Nat->Nat->Rat}(r:RowV (RWr w) h A n M):RowsV h A n w M:=r
def A4l{α:Type}[E:Enc α]{P:aU}{t e ty:aK}{z:aN}{bytes:Nat}(st:bV P t e z E.default.size bytes){h g o:aD}(s:Sep h g o){A:Option aG}{B:Option aG}{d m:Nat}{ys:List α}(hm:m=ys.length)(hne:ys≠[])(sy:SlF h B ys)
 (hb:(2*ys.length+192)*bytes<=281474976710656) (hn:ys.length<=9223372036854775807) {K:VP}
 (x:∀ b c' h' g' o' y,o'=o.put b y->h b=none->g.le g'->Sep h' g' o'->ys.length<=c'->RowB o' b ys->K (.slice (some ⟨b,0,none⟩) m c') h'):wpH P (aM #[t,t] ty #[.slice A 0 0,.slice B m d]) K h:=by
 have p:PrivF h h e A 0 ([]:List α):=PrivF.nil h e A
 refine Ah st p hm sy gz0 gz0 ?_
 intro A' c' h' g' l k
 obtain ⟨b,y,D,a,C,_,r⟩:=B1s k hne
 obtain ⟨n,i,q⟩:=s.after l
 have f:=k.2.1
 have j:h b=none:=by
  cases hx:h b with
  | none=>rfl
  | some u=>rw [l b u hx] at a;cases a
 obtain ⟨w,ex,c⟩:=r
 rw [C3] at c
 have:=x b c' _ n (o.put b y) y rfl j i (q.new a y) f ⟨w,ex,by rw [C3];exact c⟩
 grind
section
variable {h:aD} {K:VP} {A:Option aG} {n cap m w:Nat} {r c:Int} {ls:Nat->List UInt8} {M:Nat->Nat->Rat}
def A7m(rv':RowV SSr h A n ls)(hn:n<=1000000)(hl:LL n ls)
 (hK1:∀ rows cols,MOk r c n ls rows cols->∀ b h',h.le h'->RowsV h' (some ⟨b,0,none⟩) rows cols (mtx (rvs ls) cols)->K (.tuple #[.slice (some ⟨b,0,none⟩) rows rows,.bool true]) h')
 (hK0:¬ Mx r c n ls->∀ h',h.le h'->K (.tuple #[.slice none 0 0,.bool false]) h'):aI prog 33 #[Dx r c A n cap] h K:=by
 refine (fnk func33 [(8,[7],[],[I 0])] (own:=[1])) ?_
 have no:∀ (_:¬ A4p r c n),K (.tuple #[.slice none 0 0,.bool false]) h:=fun hs=>hK0 (fun x=>hs (A6c.1 x).1) h (B7 _)
 refine C0 (fun e=>no fun s=>by have:=s.1;omega) (fun h1=>C0 (fun e=>no fun s=>by have:=s.2.1;omega) (fun H=>C0 (fun e=>no fun s=>by have:=s.2.2.1;omega) (fun V=>C0 (fun e=>no fun s=>by have:=s.2.2.2.1;omega) (fun O=>?_))))
 have M:r*c<=64*64:=Int.mul_le_mul oo oo oo oo
 have D:0<=r*c:=cP oo oo
 have Q:C4 (r*c)=r*c:=C1 oo oo
 rw [Q]
 refine D9 (fun e=>no fun s=>e s.2.2.2.2) (fun R=>?_)
 have N:A4p r c n:=⟨oo,oo,oo,oo,R⟩
 refine B07 rv' hn hl (fun j b d own=>?_) (fun p h' l=>⟨_,_,_,_,rfl,hK0 (fun x=>p (A6c.1 x).2) h' l⟩)
 have mk:=MOk.of N j
 generalize r.toNat=rows at mk
 generalize c.toNat=cols at mk
 obtain ⟨rfl,rfl,_,_,_,_,rfl,_⟩:=id mk
 have W:=own.vis Q6
 refine ⟨_,_,_,_,rfl,I3 B8e (zx:=(⟨none,0,0⟩:HV)) rfl oo oo oo oo ?_⟩
 intro t u
 refine ⟨_,_,_,rfl,fun L m=>∃ k:Nat,k<=rows/\L=[I (k:Int)]/\OwnK (RWr cols) d m t rows k (mtx (rvs ls) cols),fun L _=>rows-(iAt L 0).toNat,⟨0,oo,rfl,OwnK.zero u⟩,?_⟩
 rintro z m ⟨k,hk,eL,g,o,T,q,s,C,hx,B⟩
 obtain rfl:z=(k:Int):=gz0
 refine C0 (fun G=>?_) (fun E=>?_)
 ·have f:k<rows:=oo
  have H:(k+1)*cols<=rows*cols:=aF _ f
  have V:(k+1)*cols=k*cols+cols:=gz0
  have w:C4 ((k:Int)+1)=((k+1:Nat):Int):=C1 oo oo
  have e1:C4 ((k:Int)*(cols:Int))=((k*cols:Nat):Int):=by exact J4 oo
  have S:C4 (C4 ((k:Int)+1)*(cols:Int))=(((k+1)*cols:Nat):Int):=by rw [w,<- Int.natCast_mul];exact J4 oo
  rw [e1,S,w]
  refine ⟨⟨oo,oo⟩,⟨oo,oo⟩,_,rfl,oo,oo,?_⟩
  simp only [bX]
  have F:(k+1)*cols-k*cols=cols:=oo
  rw [F]
  have row:RowV NQr d (T9 (some ⟨b,0,none⟩) (rows*cols) (k*cols) 4) cols (mtx (rvs ls) cols k):=W.cut (c:=rows*cols) (l:=k*cols) (k:=cols) oo (aE _)
  refine OwnK.store (A77 cols) Xh (y:=(⟨T9 (some ⟨b,0,none⟩) (rows*cols) (k*cols) 4,cols,rows*cols-k*cols⟩:HV)) q (B7 _) s C oo B f rfl ⟨rfl,gz0,row.mono Q6 q⟩ ?_
  intro O X
  exact ⟨⟨k+1,oo,rfl,X⟩,by simp only [R9];omega⟩
 ·have:k=rows:=oo
  subst this
  have a:Own (RWr cols) d m t k (mtx (rvs ls) cols):=⟨g,o,T,q,s,C,hx,B⟩
  exact hK1 _ _ mk t m (B0 own.le a.le) (RowsV.of (a.vis (A77 cols)))
def A7o{rcap:Nat}(rs:RowsV h A n w M)(hn:n<=1000000)(hw1:1<=w)(hw:w<=1000000)(hn1:1<=n)
 (hK:∀ h' g' o' bo rb c',h.le g'->Mt h' g' o' bo rb n w M->K (.slice (some ⟨bo,0,none⟩) n c') h'):aI prog 126 #[.slice A n rcap] h K:=by
 refine (fnk func126 [(3,[3,4],[],[.slice none 0 0,I 0])]) ?_
 refine ⟨fun L hp=>∃ (k:Nat) (g o:aD) (B:List HV) (rb:Nat->Nat) (A':Option aG) (c':Nat),k<=n/\L=[.slice A' k c',I (k:Int)]/\h.le g/\Sep hp g o/\OwnSl o 27 A' c' B/\B.length=k/\(∀ i,i<k->∃ c,B[i]? = some ⟨some ⟨rb i,0,none⟩,w,c⟩/\w<=c)/\(∀ i,i<k->A'≠some ⟨rb i,0,none⟩)/\(∀ i j,i<k->j<k->rb i=rb j->i=j)/\∀ i,i<k->∃ l:List QV,RowB o (rb i) l/\l.length=w/\Row NQr g l w (M i),fun L _=>n-(iAt L 1).toNat,
  ⟨0,h,An,[],fun _=>0,none,0,oo,rfl,B7 _,Sep.refl h,OwnSl.nil,rfl,fun i d=>oo,fun i d=>oo,fun i j d=>oo,fun i d=>oo⟩,?_⟩
 rintro oA on oc z hp ⟨k,g,o,B,rb,A',c',hk,eL,H,s,ow,t,D,p,C,f⟩
 obtain ⟨⟨rfl,rfl,rfl⟩,rfl⟩:=eL
 refine C0 (fun ai=>?_) (fun ah=>?_)
 ·have Q:on<n:=oo
  refine Om Un ?_
  intro be u
  have N:=s.vis u (.cells #[] 37)
  have G:g.le (g.put be (.cells #[] 37)):=Heap.le_put _ (by
   cases O:g be with
   | none=>rfl
   | some y=>rw [s.le _ _ O] at u;cases u)
  have F:=B0 H G
  obtain ⟨a,sv,ea,e1,e2,hc,l,sx,R,qx⟩:=rs.at Q
  refine ⟨_,_,_,rfl,a,ea,oo,oo,_,_,_,C2 (B0 F N.le) hc,?_⟩
  refine A4l Un N (ys:=l) oo gz0 (sx.mono (B0 F N.le)) oo oo ?_
  intro r c2 h2 g2 o2 y eo am l2 s2 ak T
  refine ⟨_,_,_,rfl,?_⟩
  have m:∀ q x,o q=some x->q≠r:=by
   rintro q x e rfl
   have:=N.ole q x e
   grind
  have X:OwnSl o2 27 oA oc B:=ow.keep fun q x _ e=>by rw [eo,B9 _ _ (m q x e)];exact e
  have af:oA≠some ⟨r,0,none⟩:=by
   intro hA
   rcases ow.2 with ⟨_,h0⟩|⟨b',an,al,aj,_⟩
   ·grind
   grind
  refine K6 (ty:=26) B8e s2 X t.symm (y:=(⟨some ⟨r,0,none⟩,sv.n,c2⟩:HV)) rfl dc oo oo ?_
  intro A3 c3 h3 g3 o3 l3 s3 aa S
  have kq:∀ i,i<on->∃ x,o (rb i)=some x:=fun i d=>by
   obtain ⟨l,⟨e,ex,hb⟩,_⟩:=f i d;grind
  obtain ⟨e5,V,ac⟩:=id T
  have k2:=S r _ ac af
  rw [t,wiS on oo]
  have b:=B0 G (B0 l2 l3)
  refine ⟨⟨on+1,g3,o3,_,fun i=>if i=on then r else rb i,A3,c3,oo,rfl,B0 H b,s3,aa,gz0,fun i d=>?_,fun i d=>?_,fun i j d hj h=>?_,fun i d=>?_⟩,?_⟩
  ·grind
  ·show A3≠some ⟨if i=on then r else rb i,0,none⟩
   by_cases e:i=on
   ·grind
   ·rw [iN e]
    obtain ⟨x,O⟩:=kq i oo
    exact (S (rb i) x (by rw [eo,B9 _ _ (m _ _ O)];exact O) (p i oo)).2
  ·grind
  ·show ∃ l:List QV,RowB o3 (if i=on then r else rb i) l/\_
   by_cases e:i=on
   ·subst e
    rw [iP rfl]
    exact ⟨l,⟨e5,V,k2.1⟩,R,qx.mono Q6 (B0 H b)⟩
   ·rw [iN e]
    obtain ⟨ys,⟨ey,ag,E⟩,W,qy⟩:=f i oo
    refine ⟨ys,⟨ey,ag,?_⟩,W,qy.mono Q6 b⟩
    exact (S (rb i) _ (by rw [eo,B9 _ _ (m _ _ E)];exact E) (p i oo)).1
  ·show n-((on+1:Nat):Int).toNat<n-((on:Nat):Int).toNat
   omega
 ·have ad:on=n:=oo
  subst ad
  obtain ⟨bo,rfl,ae⟩:=ow.rowB gz0
  exact hK hp g o bo rb oc H ⟨s,⟨B,ae,t,D⟩,fun i d e=>p i d (by rw [e]),C,f⟩
end
section
variable {α:Type} [E:Enc α]
def OwnSl.app{P:aU}{t e ty:aK}{z:aN}{bytes:Nat}(st:bV P t e z E.default.size bytes){h g o:aD}{A:Option aG}{c:Nat}{xs:List α}(s:Sep h g o)(w:OwnSl o e A c xs){B:Option aG}{d m n:Nat}{ys:List α}(hxn:n=xs.length)(hm:m=ys.length)(hne:ys≠[])(sy:SlF h B ys)(hb:(2*(xs.length+ys.length)+192)*bytes<=281474976710656)(hn:xs.length+ys.length<=9223372036854775807){K:VP}
 (x:∀ A' c' h' g' o',g.le g'->Sep h' g' o'->OwnSl o' e A' c' (xs++ys)->(∀ k u,o k=some u->A≠some ⟨k,0,none⟩->o' k=some u/\A'≠some ⟨k,0,none⟩)->K (.slice A' (xs.length+m) c') h'):
 wpH P (aM #[t,t] ty #[.slice A n c,.slice B m d]) K h:=by
 subst hxn
 obtain ⟨gb,p,l⟩:=w.priv s
 refine Ah st p hm sy hb hn ?_
 intro A' c' h' g' S L
 rw [aQ,<- hm]
 have j:∀ k u,h k=some u->A≠some ⟨k,0,none⟩->g' k=some u:=by
  intro k u a hne
  exact S k u (l k u a hne)
 have H:∀ k u,g k=some u->A≠some ⟨k,0,none⟩:=by
  intro k u a r
  rcases w.2 with ⟨_,h0⟩|⟨i,f,b,C,_⟩
  ·grind
  ·rw [r] at b
   simp only [aL,aS,and_true] at b
   subst b
   rw [s.dis k _ C] at a;cases a
 rcases L.2.2 with ⟨Q,_⟩|⟨i,f,b,C,D,X,R⟩
 ·exfalso
  have:=L.2.1
  simp_all
 ·subst b
  let o':aD:=fun k=>if k=i then some (.cells (aZ f) e) else if A=some ⟨k,0,none⟩ then none else o k
  have N:o' i=some (.cells (aZ f) e):=gz0
  have ok:∀ k,k≠i->A≠some ⟨k,0,none⟩->o' k=o k:=fun k O G=>by grind
  let g2:aD:=fun k=>match o' k with|some _=>none|none=>h' k
  have V:∀ k u,o' k=some u->g2 k=none:=fun k u a=>by grind
  have W:∀ k,o' k=none->g2 k=h' k:=fun k a=>by grind
  have F:∀ k u,k≠i->g' k=some u->h' k=some u:=fun k u O a=>by rw [D,B9 _ _ O];exact a
  have M:∀ k u,o k=some u->A≠some ⟨k,0,none⟩->k≠i:=by
   rintro k u a G rfl
   have:=j k u (s.own k u a) G
   grind
  refine x _ c' h' g2 o' (fun k u a=>?_) ⟨fun k u a=>?_,fun k a=>(W k a).symm,V⟩ ⟨L.2.1,.inr ⟨i,f,rfl,N,X,R⟩⟩ (fun k u a G=>?_)
  ·have T:o k=none:=by
    cases ho:o k with
    | none=>rfl
    | some y=>rw [s.dis k y ho] at a;cases a
   have r:=H k u a
   have e3:=j k u (s.le k u a) r
   grind
  ·by_cases q:k=i
   ·subst q
    rw [N] at a;cases a
    rw [D,C3]
   ·by_cases r:A=some ⟨k,0,none⟩
    ·grind
    ·rw [ok k q r] at a
     exact F k u q (j k u (s.own k u a) r)
  grind
end
def K8(M:Nat->Nat->Rat)(w:Nat):Nat->List UInt8:=fun k=>E8 (M (k/w) (k%w))
section
variable {h:aD} {K:VP} {A:Option aG} {n cap m w:Nat} {M:Nat->Nat->Rat}
def A7n(rs:RowsV h A n w M)(hn:n<=10000)(hw1:1<=w)(hw:w<=10000)(hn1:1<=n)(hs:∀ i j,i<n->j<w->Sz m (M i j))(hm:m<=400000000)
 (hK:∀ A' c' h',h.le h'->n*w<=c'->RowV SSr h' A' (n*w) (K8 M w)->K (Dx n w A' (n*w) c') h'):aI prog 76 #[.slice A n cap] h K:=by
 refine (fnk func76 [(5,[4],[(3,3)],[I 0,I 0,I 0,.slice none 0 0])] (own:=[2,3]) (wr:=[1000000000])) ?_
 refine D5 (fun e=>oo) (fun _=>?_)
 obtain ⟨a,sv,rfl,H,e2,hc,_⟩:=rs.at (i:=0) oo
 have aa:n*w<=10000*10000:=cL hn hw
 refine ⟨a,rfl,oo,oo,_,_,_,hc,fun L B=>∃ (k:Nat) (g o:aD) (l:List (List UInt8)) (A':Option aG) (c':Nat),k<=n/\L=[I (k:Int),I (n:Int),I (w:Int),.slice A' (k*w) c']/\h.le g/\Sep B g o/\OwnSl o 9 A' c' l/\l.length=k*w/\Row SSr g l (k*w) (K8 M w),fun L _=>n-(iAt L 0).toNat,⟨0,h,An,[],none,0,oo,gz0,B7 _,Sep.refl h,OwnSl.nil,by simp,by rw [Nat.zero_mul];exact Row.nil⟩,?_⟩
 rintro z m0 m1 mA mn V B ⟨k,g,o,l,A',c',hk,X,p,s,D,d,G⟩
 obtain ⟨rfl,rfl,rfl,rfl,rfl,rfl⟩:=X
 refine C0 (fun O=>?_) (fun N=>?_)
 ·have b:k<n:=oo
  obtain ⟨a1,s1,ea,T,f2,E,row⟩:=rs.at b
  have C:=B0 p s.le
  have q:(k+1)*w=k*w+w:=gz0
  have R:(k+1)*w<=n*w:=aF _ b
  refine ⟨a1,ea,oo,oo,_,_,_,C2 C E,?_⟩
  rw [T]
  refine s.call (Vh (row.mono Q6 p) oo (fun j hj=>hs k j b hj) oo ?_)
  intro b2 g2 own h2 t
  have f:=own.le
  obtain ⟨ys,S,r,qy⟩:=own.vis E9
  refine ⟨_,_,_,rfl,s.le_le t f,?_⟩
  refine OwnSl.app (ty:=31) H0 t D oo r.symm gz0 (S.mono t.le) oo oo ?_
  intro A3 c3 h3 g3 o3 W s3 y _
  rw [d,<- q,wiS k oo]
  refine ⟨_,_,_,rfl,⟨k+1,g3,o3,_,A3,c3,oo,rfl,B0 p (B0 f W),s3,y,gz0,fun i hi=>?_⟩,by simp only [R9];omega⟩
  by_cases e:i<k*w
  ·obtain ⟨u,H,hu⟩:=G i e
   grind
  ·obtain ⟨j0,rfl⟩:∃ j0,i=k*w+j0:=⟨i-k*w,oo⟩
   have c:j0<w:=oo
   obtain ⟨u,H,hu⟩:=qy j0 c
   refine ⟨u,gz0,?_⟩
   have hd:(k*w+j0)/w=k:=by rw [bN,cH oo,bZ c,bO]
   have Q:(k*w+j0)%w=j0:=by rw [bN,Nat.mul_add_mod,Nat.mod_eq_of_lt c]
   show u=K8 M w (k*w+j0)
   unfold K8
   grind
 ·have:k=n:=oo
  subst this
  have F:=D.1
  exact hK mA V B (B0 p s.le) oo ⟨l,D.slF s.ole,d,G.mono E9 s.le⟩
end
abbrev ecE(M:Nat->Nat->Rat)(n c:Nat):ES:=Nq n ⟨M,[],1⟩ c
def A93{n:Nat}{s:ES}{c:Nat}(h:n<=(Nq n s c).cs.length):∀ d,Nq n s (c+d)=Nq n s c:=by
 intro d
 induction d with
 | zero=>rfl
 | succ d ih=>
  show Y8 n (c+d) (Nq n s (c+d))=_
  unfold Y8
  grind
def U8(M:Nat->Nat->Rat)(n:Nat):∀ c,(ecE M n c).cs.length<=c/\(ecE M n c).cs.length<=n:=by
 intro c
 induction c with
 | zero=>exact ⟨aE _,aP _⟩
 | succ c ih=>
  show (Y8 n c (ecE M n c)).cs.length<=c+1/\(Y8 n c (ecE M n c)).cs.length<=n
  unfold Y8
  grind
def A7p(M:Nat->Nat->Rat)(n c:Nat):Rat:=if (ecE M n c).cs.length<c then 0 else (ecE M n c).det
abbrev qc(w:QV):List aN:=[.bool w.s,.slice w.A w.n w.c,.bool w.s2,.slice w.A2 w.n2 w.c2]
def A6t{w:QV}{a b:Bool}{A B:Option aG}{n c n' c':Nat}{l l':List aN}(h:(.bool a:aN) :: .slice A n c :: .bool b :: .slice B n' c'::l= .bool w.s :: .slice w.A w.n w.c :: .bool w.s2 :: .slice w.A2 w.n2 w.c2::l'):(⟨a,A,n,c,b,B,n',c'⟩:QV)=w/\l=l':=by
 simp_all
def Qd(bo:Nat)(rb:Nat->Nat)(n:Nat)(A:Option aG):Prop:=A≠some ⟨bo,0,none⟩/\∀ i,i<n->A≠some ⟨rb i,0,none⟩
section
variable {g o h11 h14 h15 hp2:aD} {bo n w r c i B:Nat} {rb:Nat->Nat} {R:Nat->Nat->Rat} {x:QV} {q:Rat} {Invv Invv3:LP} {muv muv3:LN}
def C2u(t:Mt h15 g o bo rb n w R)(hi:i<n)(hr:r<n)(hir:i≠r)(hcw:c<=w)(hn:n<=10000)(hw:w<=10000)(ix:NQ g x q)(s1:∀ b,b<w->Sz B (R i b))(s2:∀ b,b<w->Sz (B+B) (R r b))(s3:Sz B q)(hB:B*7<=100000000)
 (fin:∀ h' g' o',g.le g'->Mt h' g' o' bo rb n w (fun a b=>if a=i/\c<=b then R i b-q*R r b else R a b)->(∀ b,(∀ i,i<n->b≠rb i)->o' b=o b)->Invv3 [I (C4 ((i:Int)+1))] h'/\muv3 [I (C4 ((i:Int)+1))] h'<muv3 [I (i:Int)] h14):
 Ug prog (some ⟨bo,0,none⟩) n r (c:Int) Invv3 muv3 (i:Int) x.s x.A x.n x.c x.s2 x.A2 x.n2 x.c2 h15 h14:=by
 refine ⟨fun L hq=>∃ (k:Nat) (g' o':aD),c<=k/\k<=w/\L=[I (k:Int)]/\g.le g'/\Mt hq g' o' bo rb n w (fun a b=>if a=i/\c<=b/\b<k then R i b-q*R r b else R a b)/\(∀ b,(∀ i,i<n->b≠rb i)->o' b=o b),fun L _=>w-(iAt L 0).toNat,⟨c,g,o,aE _,hcw,rfl,B7 _,t.congr (fun a b _ _=>gz0),fun _ _=>rfl⟩,?_⟩
 rintro z D ⟨k,S,W,ag,ae,ac,G,e,C⟩
 obtain rfl:z=(k:Int):=gz0
 obtain ⟨c6,af,F⟩:=e.head hi
 have j:=e.sep.cell F
 refine ⟨_,rfl,oo,oo,_,_,_,j,C0 (fun T=>?_) (fun Q=>?_)⟩
 ·have d:k<w:=oo
  obtain ⟨c7,ad,H⟩:=e.head hr
  obtain ⟨y,N,y0,y1,y2,y3⟩:=e.elem hi d
  obtain ⟨v,O,v0,v1,v2,X⟩:=e.elem hr d
  rw [iN oo] at N
  rw [iN (fun x=>hir x.1.symm)] at O
  refine ⟨_,rfl,oo,oo,_,_,_,j,_,rfl,oo,oo,_,_,_,j,_,rfl,oo,oo,_,_,_,_,_,_,_,_,e.sep.cell y0,e.sep.cell y1,e.sep.cell y2,e.sep.cell y3,_,rfl,oo,oo,_,_,_,e.sep.cell H,_,rfl,oo,oo,_,_,_,_,_,_,_,_,e.sep.cell v0,e.sep.cell v1,e.sep.cell v2,e.sep.cell X,?_⟩
  refine e.sep.call (S7 (ix.mono G) O (s3.mono (show B<=B+B from oo)) (s2 k d) oo ?_)
  intro w7 g7 m i7 aa f
  have t7:=e.next f m
  refine ⟨_,_,_,_,_,_,_,_,rfl,e.sep.le_le f m,?_⟩
  refine f.call (A94 (N.mono m) i7 ((s1 k d).mono (show B<=B+(B+B) from oo)) (s3.mul (s2 k d)) oo ?_)
  intro w8 g8 u i8 ah l
  have t8:=t7.next l u
  refine ⟨_,_,_,_,_,_,_,_,rfl,f.le_le l u,_,rfl,oo,oo,?_⟩
  refine t8.store hi d (x:=w8) i8 ?_
  intro V p E M
  rw [wiS k oo]
  refine ⟨⟨k+1,g8,p,oo,oo,rfl,B0 G (B0 m u),E.congr (fun a b _ _=>?_),fun b hb=>gz0⟩,by simp only [R9];omega⟩
  show (if a=i/\b=k then R i k-q*R r k else if a=i/\c<=b/\b<k then R i b-q*R r b else R a b)=if a=i/\c<=b/\b<k+1 then R i b-q*R r b else R a b
  grind
 ·refine fin D S W G (e.congr (fun a b _ hb=>?_)) C
  grind
def C2v{pA:Option aG}{pc:Nat}{d0 d2 e0 e2:Bool}{d1A d3A e1A e3A:Option aG}{d1n d1c d3n d3c e1n e1c e3n e3c:Nat}(t:Mt h11 g o bo rb n w (fun a b=>if a=r then R r b/R r c else R a b))(hr:r<n)(hcw:c<w)(hn:n<=10000)(hw:w<=10000)(hB1:1<=B)(hR:∀ a b,a<n->b<w->Sz B (R a b))(hB:B*7<=100000000)
 (fin:∀ h' g' o',g.le g'->Mt h' g' o' bo rb n w (elimE R r c)->(∀ b,(∀ i,i<n->b≠rb i)->o' b=o b)->wpH prog (aO 22 1 #[(0,I (c:Int))]) (fun v hp20=>∃ (t167A:Option aG) (t167n:Nat) (t167c:Nat),v= .slice t167A t167n t167c/\wpH prog (aM #[22,22] 22 #[.slice pA r pc,.slice t167A t167n t167c]) (fun v1 hp21=>∃ (t168A:Option aG) (t168n:Nat) (t168c:Nat),v1= .slice t168A t168n t168c/\Invv [.slice t168A t168n t168c,I (C4 ((c:Int)+(1:Int))),.bool e0,.slice e1A e1n e1c,.bool e2,.slice e3A e3n e3c] hp21/\muv [.slice t168A t168n t168c,I (C4 ((c:Int)+(1:Int))),.bool e0,.slice e1A e1n e1c,.bool e2,.slice e3A e3n e3c] hp21<muv [.slice pA r pc,I (c:Int),.bool d0,.slice d1A d1n d1c,.bool d2,.slice d3A d3n d3c] hp2) hp20) h'):
 Kk prog (some ⟨bo,0,none⟩) n Invv muv pA r pc (c:Int) d0 d1A d1n d1c d2 d3A d3n d3c e0 e1A e1n e1c e2 e3A e3n e3c hp2 h11:=by
 refine ⟨fun L j=>∃ (i:Nat) (g' o':aD),i<=n/\L=[I (i:Int)]/\g.le g'/\Mt j g' o' bo rb n w (fun a b=>if a=r then R r b/R r c else if a<i then elimE R r c a b else R a b)/\(∀ b,(∀ i,i<n->b≠rb i)->o' b=o b),fun L _=>n-(iAt L 0).toNat,⟨0,g,o,oo,rfl,B7 _,t.congr (fun a b _ l=>?_),fun _ _=>rfl⟩,?_⟩
 ·rfl
 rintro z k ⟨i,E,A,hi,V,s,d,p⟩
 obtain rfl:z=(i:Int):=gz0
 have q:C4 ((i:Int)+1)=((i+1:Nat):Int):=by rw [C1]<;>omega
 refine C0 (fun D=>?_) (fun C=>?_)
 ·have f:i<n:=oo
  obtain ⟨c5,Q,y⟩:=d.head f
  obtain ⟨x,u,G,x1,W,N⟩:=d.elem f hcw
  refine ⟨_,rfl,oo,oo,_,_,_,d.sep.cell y,_,rfl,oo,oo,_,_,_,_,_,_,_,_,d.sep.cell G,d.sep.cell x1,d.sep.cell W,d.sep.cell N,?_⟩
  have same:∀ (j:i=r\/R i c=0),(∃ (i':Nat) (g' o':aD),i'<=n/\[I (C4 ((i:Int)+1))]=[I (i':Int)]/\g.le g'/\Mt k g' o' bo rb n w (fun a b=>if a=r then R r b/R r c else if a<i' then elimE R r c a b else R a b)/\(∀ b,(∀ i,i<n->b≠rb i)->o' b=o b))/\n-(iAt [I (C4 ((i:Int)+1))] 0).toNat<n-(iAt [I (i:Int)] 0).toNat:=by
   intro j
   rw [q]
   refine ⟨⟨i+1,E,A,oo,rfl,s,d.congr (fun a b _ _=>?_),p⟩,by simp only [R9];omega⟩
   by_cases F:a=r
   ·grind
   ·by_cases h1:a<i
    ·grind
    ·by_cases h2:a<i+1
     ·rcases j with j|j
      ·omega
      ·unfold elimE
       grind
     grind
  refine D5 (fun X=>same (.inl oo)) (fun X=>?_)
  have m:i≠r:=oo
  rw [iN m,iN (bL i)] at u
  refine Z8 (u.mono d.sep.le) ⟨_,rfl,D5 (fun e=>?_) (fun e=>?_)⟩
  ·exact same (.inr (by rw [Int.sign_eq_zero_iff_zero] at e;exact Rat.num_eq_zero.1 e))
  refine C2u (B:=B) d f hr m oo hn hw u (fun b l=>gz0) (fun b l=>by rw [iP rfl];exact (hR r b hr l).div (hR r c hr hcw) hB1) (hR i c f hcw) hB ?_
  intro T H M l6 O S
  rw [q]
  refine ⟨⟨i+1,H,M,oo,rfl,B0 s l6,O.congr (fun a b _ l=>?_),fun b l=>gz0⟩,by simp only [R9];omega⟩
  by_cases F:a=i
  ·unfold elimE
   grind
  grind
 ·exact fin k E A s (d.congr (fun a b ha _=>by
   by_cases F:a=r
   ·unfold elimE;grind
   grind)) p
def C2w{h10:aD}{xf:QV}{pA:Option aG}{pc:Nat}{d0 d2 e0 e2:Bool}{d1A d3A e1A e3A:Option aG}{d1n d1c d3n d3c e1n e1c e3n e3c:Nat}(t:Mt h10 g o bo rb n w R)(hr:r<n)(hcw:c<w)(hn:n<=10000)(hw:w<=10000)(ixf:NQ g xf (R r c))(hR:∀ b,b<w->Sz B (R r b))(hB:B*7<=100000000)
 (fin:∀ h' g' o',g.le g'->Mt h' g' o' bo rb n w (fun a b=>if a=r then R r b/R r c else R a b)->(∀ b,(∀ i,i<n->b≠rb i)->o' b=o b)->Kk prog (some ⟨bo,0,none⟩) n Invv muv pA r pc (c:Int) d0 d1A d1n d1c d2 d3A d3n d3c e0 e1A e1n e1c e2 e3A e3n e3c hp2 h'):
 Uh prog (some ⟨bo,0,none⟩) n Invv muv pA r pc (c:Int) d0 d1A d1n d1c d2 d3A d3n d3c xf.s xf.A xf.n xf.c xf.s2 xf.A2 xf.n2 xf.c2 e0 e1A e1n e1c e2 e3A e3n e3c h10 hp2:=by
 refine ⟨fun L T=>∃ (j:Nat) (g' o':aD),j<=w/\L=[I (j:Int)]/\g.le g'/\Mt T g' o' bo rb n w (fun a b=>if a=r/\b<j then R r b/R r c else R a b)/\(∀ b,(∀ i,i<n->b≠rb i)->o' b=o b),fun L _=>w-(iAt L 0).toNat,⟨0,g,o,oo,rfl,B7 _,t.congr (fun a b _ _=>gz0),fun _ _=>rfl⟩,?_⟩
 rintro z p ⟨j,g4,o4,hj,X,u,d,y⟩
 obtain rfl:z=(j:Int):=gz0
 obtain ⟨S,F,C⟩:=d.head hr
 have f:=d.sep.cell C
 refine ⟨_,rfl,oo,oo,_,_,_,f,C0 (fun N=>?_) (fun G=>?_)⟩
 ·have e:j<w:=oo
  obtain ⟨x,E,H,x1,x2,O⟩:=d.elem hr e
  rw [iN oo] at E
  refine ⟨_,rfl,oo,oo,_,_,_,f,_,rfl,oo,oo,_,_,_,f,_,rfl,oo,oo,_,_,_,_,_,_,_,_,d.sep.cell H,d.sep.cell x1,d.sep.cell x2,d.sep.cell O,?_⟩
  refine d.sep.call (A9b E (ixf.mono u) (hR _ e) (hR _ hcw) oo ?_)
  intro w5 g5 m V W k
  refine ⟨_,_,_,_,_,_,_,_,rfl,d.sep.le_le k m,_,rfl,oo,oo,?_⟩
  have t5:=d.next k m
  refine t5.store hr e (x:=w5) V ?_
  intro M l q D
  rw [wiS j oo]
  refine ⟨⟨j+1,g5,l,oo,rfl,B0 u m,q.congr (fun a b _ _=>?_),fun b Q=>gz0⟩,by simp only [R9];omega⟩
  show (if a=r/\b=j then R r j/R r c else if a=r/\b<j then R r b/R r c else R a b)=if a=r/\b<j+1 then R r b/R r c else R a b
  grind
 ·refine fin p g4 o4 u (d.congr (fun a b _ Q=>?_)) y
  grind
end
section
variable {g o h5 h9 hp2:aD} {bo n w r c B k:Nat} {rb:Nat->Nat} {R:Nat->Nat->Rat} {q:Rat} {Invv:LP} {muv:LN} {pA:Option aG} {pc:Nat} {wd wd0:QV} {l:List Nat}
def C2x(hl:l.length=r)(t:Mt h9 g o bo rb n w R)(ow:OwnSl o 3 pA pc (zs l))(ap:Qd bo rb n pA)(iq:NQ g wd q)(hr:r<n)(hcw:c<w)(hn:n<=10000)(hw:w<=10000)(hB1:1<=B)(hq:Sz B q)(hR:∀ a b,a<n->b<w->Sz B (R a b))(hB:B*7<=100000000)
 (fin:∀ h' g' o' A' c' wd',g.le g'->Mt h' g' o' bo rb n w (elimE R r c)->OwnSl o' 3 A' c' (zs (l++[c]))->Qd bo rb n A'->NQ g' wd' (q*R r c)->Invv (.slice A' (r+1) c'::I (C4 ((c:Int)+1))::qc wd') h'/\muv (.slice A' (r+1) c'::I (C4 ((c:Int)+1))::qc wd') h'<muv (.slice pA r pc::I (c:Int)::qc wd0) hp2):
 Ui prog (some ⟨bo,0,none⟩) n Invv muv pA r pc (c:Int) wd0.s wd0.A wd0.n wd0.c wd0.s2 wd0.A2 wd0.n2 wd0.c2 wd.s wd.A wd.n wd.c wd.s2 wd.A2 wd.n2 wd.c2 hp2 h9:=by
 obtain ⟨ch,ag,kh⟩:=t.head hr
 obtain ⟨xf,j,C,u,p,F⟩:=t.elem hr hcw
 refine ⟨_,rfl,oo,oo,_,_,_,t.sep.cell kh,_,rfl,oo,oo,_,_,_,_,_,_,_,_,t.sep.cell C,t.sep.cell u,t.sep.cell p,t.sep.cell F,?_⟩
 refine t.sep.call (S7 iq j hq (hR _ _ hr hcw) oo ?_)
 intro H g3 E i4 ac L
 refine ⟨_,_,_,_,_,_,_,_,rfl,?_⟩
 refine C2w (B:=B) (t.next L E) hr hcw hn hw (j.mono E) (fun b Q=>hR _ b hr Q) hB ?_
 intro ae g4 o4 V t4 af
 refine C2v (B:=B) t4 hr hcw hn hw hB1 hR hB ?_
 intro aa g5 T S m W
 have M:∀ b,(∀ i,i<n->b≠rb i)->T b=o b:=fun b Q=>by grind
 have G:OwnSl T 3 pA pc (zs l):=ow.keep fun b x hA e=>by rw [M b (fun i hi e=>ap.2 i hi gz0)];exact e
 have f:(zs l).length=r:=by simp [hl]
 refine K6 (ty:=22) Iy m.sep G f.symm (y:=((c:Nat):Int)) rfl dc oo oo ?_
 intro A6 c6 D X o6 N s6 ad d
 obtain ⟨⟨y0,O⟩,z⟩:=m.own
 have t6:=m.keep s6 N (fun k x e hk=>by
  rcases hk with rfl|⟨q,hq,rfl⟩
  ·exact (d _ _ e ap.1).1
  ·exact (d _ _ e (ap.2 q hq)).1)
 rw [f]
 refine fin D X o6 A6 c6 H (B0 E (B0 V (B0 S N))) t6 gz0 ⟨(d _ _ O ap.1).2,fun q hq=>?_⟩ (i4.mono (B0 V (B0 S N)))
 obtain ⟨x,hx⟩:=z q hq
 exact (d _ _ hx (ap.2 q hq)).2
def C2y(hl:l.length=r)(t:Mt h5 g o bo rb n w R)(ow:OwnSl o 3 pA pc (zs l))(ap:Qd bo rb n pA)(iq:NQ g wd0 q)(hr:r<n)(hk:k<=n)(hcw:c<w)(hn:n<=10000)(hw:w<=10000)(hB1:1<=B)(hq:Sz B q)(hR:∀ a b,a<n->b<w->Sz B (R a b))(hB:B*7<=100000000)
 (fin0:k=n->Invv (.slice pA r pc::I (C4 ((c:Int)+1))::qc ⟨false,none,0,0,false,none,0,0⟩) h5/\muv (.slice pA r pc::I (C4 ((c:Int)+1))::qc ⟨false,none,0,0,false,none,0,0⟩) h5<muv (.slice pA r pc::I (c:Int)::qc wd0) hp2)
 (fin:k<n->∀ h' g' o' rb' A' c' wd',g.le g'->Mt h' g' o' bo rb' n w (elimE (fun i=>R (xch r k i)) r c)->OwnSl o' 3 A' c' (zs (l++[c]))->Qd bo rb' n A'->NQ g' wd' ((if k=r then q else -q)*R k c)->Invv (.slice A' (r+1) c'::I (C4 ((c:Int)+1))::qc wd') h'/\muv (.slice A' (r+1) c'::I (C4 ((c:Int)+1))::qc wd') h'<muv (.slice pA r pc::I (c:Int)::qc wd0) hp2):
 Uj prog (some ⟨bo,0,none⟩) n Invv muv pA r pc (c:Int) wd0.s wd0.A wd0.n wd0.c wd0.s2 wd0.A2 wd0.n2 wd0.c2 (k:Int) hp2 h5:=by
 refine D5 (fun e=>fin0 oo) (fun ai=>?_)
 have d:k<n:=oo
 have m:∀ i,i<n->xch r k i<n:=fun i X=>Gc hr d X
 have xk:xch r k r=k:=If _ _
 refine ⟨fun L hq=>∃ (y Q:aD) (f:Nat->Nat) (wd:QV),L=qc wd/\g.le y/\Mt hq y Q bo f n w (fun i=>R (xch r k i))/\OwnSl Q 3 pA pc (zs l)/\Qd bo f n pA/\NQ y wd (if k=r then q else -q),?_,?_⟩
 ·refine D9 (fun ag=>?_) (fun ah=>?_)
  ·obtain ⟨c1,af,k1⟩:=t.head hr
   obtain ⟨c2,V,k2⟩:=t.head d
   refine ⟨_,rfl,oo,oo,_,_,_,t.sep.cell k1,_,rfl,oo,oo,_,_,_,t.sep.cell k2,_,rfl,oo,oo,?_⟩
   refine t.swap hr d Xh k1 k2 af V (fun h6 H=>⟨_,rfl,oo,oo,H (fun h7 o7 t7 N=>?_)⟩)
   refine t7.sep.call (Rt iq (fun u i3 h8 s8=>⟨_,_,_,_,_,_,_,_,rfl,?_⟩))
   refine ⟨g,o7,_,u,rfl,B7 _,t7.next s8 (B7 _),ow.keep fun b x hA e=>?_,⟨ap.1,fun i X=>ap.2 _ (m i X)⟩,gz0⟩
   rw [N b (fun e=>ap.1 gz0)];exact e
  ·refine ⟨g,o,rb,wd0,rfl,B7 _,t.congr (fun i j _ _=>?_),ow,ap,gz0⟩
   unfold xch;grind
 rintro e0 W S T e2 aa G ae h9 ⟨y,Q,f,u,C,E,t2,M,O,z⟩
 obtain ⟨rfl,_⟩:=A6t C
 have ac:Sz B (if k=r then q else -q):=by
  split
  ·exact hq
  ·exact hq.neg
 refine C2x (wd:=⟨e0,W,S,T,e2,aa,G,ae⟩) hl t2 M O z hr hcw hn hw hB1 ac (fun a b ha hb=>hR _ b (m a ha) hb) hB ?_
 intro h' g' o' A' c' wd' F t' ad D p
 rw [xk] at p
 exact fin d h' g' o' f A' c' wd' (B0 E F) t' ad D p
end
section
variable {h:aD} {K:VP} {A:Option aG} {n cap m w:Nat} {M:Nat->Nat->Rat}
def Uu{cols nq:Nat}(rs:RowsV h A n w M)(hn1:1<=n)(hn:n<=10000)(hw1:1<=w)(hw:w<=10000)(hc:cols<=w)(hm1:1<=m)(hs:∀ i j,i<n->j<w->Sz m (M i j))(hnq:∀ c,c<cols->(ecE M n c).cs.length<nq)(hm:7^nq*m<=100000000)
 (hK:∀ h' g' o' bo rb c' A' cap' wd,h.le g'->Mt h' g' o' bo rb n w (ecE M n cols).R->OwnSl o' 3 A' cap' (zs (ecE M n cols).cs)->Qd bo rb n A'->NQ g' wd (A7p M n cols)->
  K (.tuple #[.slice (some ⟨bo,0,none⟩) n c',.slice A' (ecE M n cols).cs.length cap',wd.v]) h'):aI prog 75 #[.slice A n cap,I (cols:Int)] h K:=by
 refine A4q _ _ _ _ ?_
 refine A7o rs oo hw1 oo hn1 ?_
 intro h1 g1 o1 bo af c0 ai t1
 refine ⟨_,_,_,rfl,t1.sep.call (Gh ⟨oo,oo⟩ ?_)⟩
 intro wd g2 l2 id h2 s2
 refine ⟨_,_,_,_,_,_,_,_,rfl,fun L y=>∃ (c:Nat) (g o:aD) (rb:Nat->Nat) (A':Option aG) (cap':Nat) (wd:QV),c<=cols/\L= .slice A' (ecE M n c).cs.length cap'::I (c:Int)::qc wd/\h.le g/\Mt y g o bo rb n w (ecE M n c).R/\OwnSl o 3 A' cap' (zs (ecE M n c).cs)/\Qd bo rb n A'/\NQ g wd (ecE M n c).det,fun L _=>cols-(iAt L 1).toNat,
  ⟨0,g2,o1,af,none,0,wd,oo,rfl,B0 ai l2,t1.next s2 l2,(OwnSl.nil:OwnSl o1 3 none 0 ([]:List Int)),⟨by simp,fun i hi=>by simp⟩,id⟩,?_⟩
 rintro pA pn pc z d0 E p D d2 l u q y ⟨c,g,o,rb,A',cap',d,ao,W,lg,t,ow,ap,iq⟩
 simp only [List.cons.injEq,Value.int.injEq,Value.slice.injEq,true_and] at W
 obtain ⟨⟨rfl,rfl,rfl⟩,rfl,W⟩:=W
 obtain ⟨rfl,_⟩:=A6t (by grind:(.bool d0:aN) :: .slice E p D :: .bool d2 :: .slice l u q::[]= .bool d.s :: .slice d.A d.n d.c :: .bool d.s2 :: .slice d.A2 d.n2 d.c2::[])
 have Q:∀ (he:ecE M n cols=ecE M n c),Br (decide ((((ecE M n c).cs.length:Nat):Int)<(cols:Int))) (K (.tuple #[.slice (some ⟨bo,0,none⟩) n c0,.slice pA (ecE M n c).cs.length pc,.agg #[.bool false,.slice none 0 0,.bool false,.slice none 0 0]]) y)
  (K (.tuple #[.slice (some ⟨bo,0,none⟩) n c0,.slice pA (ecE M n c).cs.length pc,.agg #[.bool d0,.slice E p D,.bool d2,.slice l u q]]) y):=by
  intro he
  rw [<- he] at t ow iq ⊢
  refine C0 (fun H=>?_) (fun X=>?_)
  ·have e:A7p M n cols=0:=by unfold A7p;grind
   exact hK y g o bo rb c0 pA pc ⟨false,none,0,0,false,none,0,0⟩ lg t ow ap (by rw [e];exact NQ.zero)
  ·have e:A7p M n cols=(ecE M n cols).det:=by unfold A7p;grind
   grind
 refine C0 (fun H=>?_) (fun X=>Q gz0)
 have T:c<cols:=oo
 have O:c<w:=oo
 refine C0 (fun F=>?_) (fun F=>Q (by
  have:=A93 (n:=n) (s:=⟨M,[],1⟩) (c:=c) gz0 (cols-c)
  grind))
 have aa:(ecE M n c).cs.length<n:=oo
 have ah:=(SzE.run (n:=n) (w:=w) (m:=m) (s:=⟨M,[],1⟩) ⟨fun a b ha hb=>by show Sz (7^0*m) (M a b);grind,by show Sz (7^0*m) 1;rw [Nat.pow_zero,cD];exact Sz.int (z:=1) (ZB.one hm1) hm1,aP _⟩ hm1 c oo)
 have f:SzE n w m (ecE M n c):=ah
 have C:ecE M n (c+1)=Y8 n c (ecE M n c):=rfl
 have ar:7^(ecE M n c).cs.length*m*7<=7^nq*m:=by
  have h1:7^(ecE M n c).cs.length*7<=7^nq:=by rw [<- Nat.pow_succ];exact bC dc (hnq c T)
  calc 7^(ecE M n c).cs.length*m*7=7^(ecE M n c).cs.length*7*m:=gz0
   _<=7^nq*m:=aF _ h1
 have ad:=Qw (ecE M n c).cs.length m hm1
 obtain ⟨r1,r2,r3,r4⟩:=Vo n c (ecE M n c) f.len
 have V:C4 ((c:Int)+1)=((c+1:Nat):Int):=by rw [C1]<;>omega
 generalize hst:ecE M n c=st at *
 generalize hB:7^st.cs.length*m=B at *
 refine ⟨fun L S=>L=[I ((Gg n c st:Nat):Int)]/\S=y,⟨fun L S=>∃ k:Nat,st.cs.length<=k/\k<=Gg n c st/\L=[I (k:Int)]/\S=y,fun L _=>n-(iAt L 0).toNat,⟨st.cs.length,aE _,r1,rfl,rfl⟩,?_⟩,?_⟩
 ·rintro z S ⟨k,an,al,W,rfl⟩
  obtain rfl:z=(k:Int):=gz0
  refine C0 (fun H=>?_) (fun X=>⟨gz0,rfl⟩)
  have G:k<n:=oo
  obtain ⟨ch,aw,r⟩:=t.head G
  obtain ⟨x,ix,x0,x1,x2,x3⟩:=t.elem G O
  refine ⟨_,rfl,oo,oo,_,_,_,t.sep.cell r,_,rfl,oo,oo,_,_,_,_,_,_,_,_,t.sep.cell x0,t.sep.cell x1,t.sep.cell x2,t.sep.cell x3,?_⟩
  refine Z8 (ix.mono t.sep.le) ⟨_,rfl,D5 (fun e=>?_) (fun e=>?_)⟩
  ·have e0:st.R k c=0:=by simp_all
   have aj:k<Gg n c st:=by
    grind
   rw [wiS k oo]
   exact ⟨⟨k+1,oo,oo,rfl,rfl⟩,by simp only [R9];omega⟩
  ·have e0:st.R k c≠0:=fun h=>e (by simp_all)
   grind
 rintro k1 S ⟨W,rfl⟩
 obtain rfl:k1=((Gg n c st:Nat):Int):=gz0
 refine C2y (B:=B) (wd0:=⟨d0,E,p,D,d2,l,u,q⟩) rfl t ow ap iq aa r2 O hn hw ad (by rw [<- hB];exact f.det) (fun a b ha hb=>by rw [<- hB];exact f.R a b ha hb) oo (fun ak=>?_) (fun aq=>?_)
 ·have N:Y8 n c st={ st with det:=0 }:=by unfold Y8;grind
  rw [V]
  refine ⟨⟨c+1,g,o,rb,pA,pc,⟨false,none,0,0,false,none,0,0⟩,oo,?_,lg,?_⟩,?_⟩
  ·grind
  ·rw [C,N];exact ⟨t,ow,ap,NQ.zero⟩
  ·show cols-((c+1:Nat):Int).toNat<cols-((c:Nat):Int).toNat
   omega
 ·intro h' g' o' ae A6 c6 ag ac t' av am au
  have N:Y8 n c st={ R:=elimE (fun i=>st.R (xch st.cs.length (Gg n c st) i)) st.cs.length c,cs:=st.cs++[c],det:=(if Gg n c st=st.cs.length then st.det else-st.det)*st.R (Gg n c st) c }:=by unfold Y8;grind
  rw [V]
  refine ⟨⟨c+1,g',o',ae,A6,c6,ag,oo,?_,B0 lg ac,?_⟩,?_⟩
  ·grind
  ·grind
  ·show cols-((c+1:Nat):Int).toNat<cols-((c:Nat):Int).toNat
   omega
def Yr{cols:Nat}(rs:RowsV h A n w M)(hn1:1<=n)(hn:n<=10000)(hw1:1<=w)(hw:w<=10000)(hc:cols<=w)(hm1:1<=m)(hs:∀ i j,i<n->j<w->Sz m (M i j))(hm:7^cols*m<=100000000)
 (hK:∀ h' g' o' bo rb c' A' cap' wd,h.le g'->Mt h' g' o' bo rb n w (ecE M n cols).R->OwnSl o' 3 A' cap' (zs (ecE M n cols).cs)->Qd bo rb n A'->NQ g' wd (A7p M n cols)->
  K (.tuple #[.slice (some ⟨bo,0,none⟩) n c',.slice A' (ecE M n cols).cs.length cap',wd.v]) h'):aI prog 75 #[.slice A n cap,I (cols:Int)] h K:=Uu rs hn1 hn hw1 hw hc hm1 hs (fun c a=>Nat.lt_of_le_of_lt (U8 M n c).1 a) hm hK
end
section
variable {h:aD} {K:VP} {A B:Option aG} {n m a b:Nat} {r c r2 c2:Int} {ls ls2:Nat->List UInt8}
def SlF.iat{xs:List Int}(s:SlF h A xs){i:Nat}(hi:i<xs.length):∃ x,A=some x/\h.cell? (aC x (i*1))=some (I xs[i]):=by
 obtain ⟨x,e,a⟩:=SlF.at dc s hi
 have:=a 0 _ rfl
 rw [Y7] at this
 exact ⟨x,e,this⟩
structure Small (r c:Int) (n:Nat) (ls:Nat->List UInt8) (k d:Int):Prop where
 hr:r<=k
 hc:c<=k
 hn:(n:Int)<=k*k+2
 hl:∀ i,i<n->((ls i).length:Int)<=d
end
def B3q(ls:List (List UInt8)):(ls.flatMap fun l=>[Value.string (bs l)])=ls.map fun l=>Value.string (bs l):=by
 induction ls with
 | nil=>rfl
 | cons x l ih=>rw [List.flatMap_cons,ih];rfl
def A3z(R:Nat->Nat->Rat)(cs:List Nat)(c:Nat):Nat->Nat->Rat
 | 0=>fun j=>if j=c then 1 else 0
 | k+1=>fun j=>if j=cs.getD k 0 then-R k c else A3z R cs c k j
def Kh(cs:List Nat):Nat->List Nat
 | 0=>[]
 | c+1=>if c∈cs then Kh cs c else Kh cs c++[c]
def Kn(cs:List Nat):Nat->Nat
 | 0=>0
 | c+1=>if c∈cs then Kn cs c+1 else Kn cs c
def Wd(cs:List Nat):∀ c,(Kh cs c).length+Kn cs c=c:=by
 intro c
 induction c with
 | zero=>rfl
 | succ c ih=>
  show (if c∈cs then Kh cs c else Kh cs c++[c]).length+(if c∈cs then Kn cs c+1 else Kn cs c)=c+1
  split
  ·omega
  ·rw [aQ];simp only [List.length_cons,List.length_nil];omega
def My(cs:List Nat):∀ c,∀ x∈Kh cs c,x<c/\x∉cs:=by
 intro c
 induction c with
 | zero=>intro x a;exact absurd a (by simp [Kh])
 | succ c ih=>
  intro x a
  unfold Kh at a
  split at a
  ·have:=ih x a;exact ⟨o,this.2⟩
  ·rename_i b
   rcases List.mem_append.1 a with a|a
   ·have:=ih x a;exact ⟨o,this.2⟩
   ·simp only [List.mem_cons,List.not_mem_nil,or_false] at a
    subst a;exact ⟨o,b⟩
def A64{cs:List Nat}(h:cs.Pairwise (· < ·)):∀ c,Kn cs c<=cs.length/\(∀ i (hi:i<cs.length),i<Kn cs c->cs[i]<c)/\(∀ i (hi:i<cs.length),Kn cs c<=i->c<=cs[i]):=by
 intro c
 induction c with
 | zero=>exact ⟨aP _,fun i hi h=>absurd h (Nat.not_lt_zero _),fun _ _ _=>aP _⟩
 | succ c ih=>
  obtain ⟨m,d,j⟩:=ih
  have pw:=List.pairwise_iff_getElem.1 h
  unfold Kn
  split
  ·rename_i f
   obtain ⟨k,b,e⟩:=List.getElem_of_mem f
   have:Kn cs c<=k:=Nat.not_lt.1 fun a=>by have:=d k b a;omega
   have n:k=Kn cs c:=cI (Nat.not_lt.1 fun a=>by
    have g:Kn cs c<cs.length:=o
    have:=pw (Kn cs c) k g b a
    have:=j (Kn cs c) g (aE _)
    omega) this
   refine ⟨o,fun i hi a=>?_,fun i hi a=>?_⟩
   ·by_cases l:i=k
    ·subst l;omega
    ·have:=d i hi o;omega
   ·have:=pw k i b hi o;omega
  ·rename_i f
   refine ⟨m,fun i hi a=>by have:=d i hi a;omega,fun i hi a=>?_⟩
   have:=j i hi a
   have:cs[i]≠c:=fun e=>f (e▸bM hi)
   omega
def A5f{cs:List Nat}{c:Nat}(h:Asc cs c):Kn cs c=cs.length:=by
 obtain ⟨b,e,d⟩:=A64 h.asc c
 refine cI b (Nat.not_lt.1 fun a=>?_)
 have:=d _ a (aE _)
 have:=h.lt _ (bM a)
 omega
def Sw{cs:List Nat}{c:Nat}(h:Asc cs c):(Kh cs c).length=c-cs.length:=by
 have:=Wd cs c
 rw [A5f h] at this
 omega
def B6w{cs:List Nat}(h:cs.Pairwise (· < ·))(c:Nat):c∈cs ↔ ∃ hk:Kn cs c<cs.length,cs[Kn cs c]=c:=by
 obtain ⟨j,f,g⟩:=A64 h c
 constructor
 ·intro i
  obtain ⟨k,hk,e⟩:=List.getElem_of_mem i
  have a:Kn cs c<=k:=Nat.not_lt.1 fun b=>by have:=f k hk b;omega
  have d:Kn cs c<cs.length:=o
  refine ⟨d,cI ?_ (g _ d (aE _))⟩
  rcases Nat.lt_or_ge (Kn cs c) k with b|b
  ·have:=List.pairwise_iff_getElem.1 h _ _ d hk b;omega
  ·have:Kn cs c=k:=o
   subst this;omega
 ·rintro ⟨hk,e⟩
  rw [<- e];exact bM hk
def B72(R:Nat->Nat->Rat)(cs:List Nat)(cols:Nat):Nat->Nat->Rat:=fun i=>A3z R cs ((Kh cs cols).getD i 0) cs.length
section
variable {h:aD} {K:VP} {A B:Option aG} {n cap m:Nat} {r c:Int} {ls:Nat->List UInt8}
def B0h{E:Nat->Rat}{rows cols:Nat}(hs:∀ i,i<rows*cols->Sz m (E i)):∀ i j,i<rows->j<cols->Sz m (mtx E cols i j):=fun _ _ b a=>hs _ (R4 b a)
def B11{M:Nat->Nat->Rat}{n w c nq:Nat}(hs:∀ i j,i<n->j<w->Sz m (M i j))(hm:1<=m)(hc:c<=w)(hnq:(ecE M n c).cs.length<=nq){b:Nat}(hb:7^nq*m<=b):(∀ i j,i<n->j<w->Sz b ((ecE M n c).R i j))/\Sz b (ecE M n c).det:=by
 have z:SzE n w m ⟨M,[],1⟩:=⟨fun i j d a=>by simpa using hs i j d a,by simpa using (⟨ZB.one hm,ZB.one hm⟩:Sz m 1),aP _⟩
 have y:=z.run hm c hc
 have e:7^(ecE M n c).cs.length*m<=7^nq*m:=aF _ (bC dc hnq)
 exact ⟨fun i j d a=>(y.R i j d a).mono (by show 7^(ecE M n c).cs.length*m<=b;omega),y.det.mono (by show 7^(ecE M n c).cs.length*m<=b;omega)⟩
def C0s{M:Nat->Nat->Rat}{n w c:Nat}(hs:∀ i j,i<n->j<w->Sz m (M i j))(hm:1<=m)(hc:c<=w){b:Nat}(hb:7^c*m<=b):(∀ i j,i<n->j<w->Sz b ((ecE M n c).R i j))/\Sz b (ecE M n c).det:=B11 hs hm hc (U8 M n c).1 hb
end
def B75(cs:List Nat){i:Nat}(hi:i<cs.length):(zs cs)[i]'(by rw [List.length_map];exact hi)=((cs.getD i 0:Nat):Int):=by
 rw [List.getElem_map,cO,cQ hi];rfl
def C04{h:aD}{A:Option aG}{cs:List Nat}(s:SlF h A (zs cs)){i:Nat}(hi:i<cs.length):∃ x,A=some x/\h.cell? (aC x (i*1))=some (I ((cs.getD i 0:Nat):Int)):=by
 obtain ⟨x,e,a⟩:=SlF.iat s (i:=i) (by rw [List.length_map];exact hi)
 rw [B75 cs hi] at a
 exact ⟨x,e,a⟩
def B76{cs:List Nat}{c:Nat}(h:Asc cs c){i:Nat}(hi:i<cs.length):cs.getD i 0<c:=by
 rw [cO,cQ hi];exact h.lt _ (bM hi)
def B3b{cs:List Nat}{c:Nat}(h:c∉cs):Kn cs (c+1)=Kn cs c:=iN h
section
variable {h:aD} {K:VP} {A:Option aG} {n cap m w:Nat} {r c:Int} {ls:Nat->List UInt8} {M:Nat->Nat->Rat}
end
section
variable {α β:Type} {R:aD->α->β->Prop} {g:aD}
def Row.app{xs ys:List α}{f:Nat->β}{p q:Nat}(hp:xs.length=p)(r:Row R g xs p f)(r2:Row R g ys q (fun j=>f (p+j))):Row R g (xs++ys) (p+q) f:=fun i b=>by
 by_cases h:i<p
 ·obtain ⟨w,e,x⟩:=r i h
  exact ⟨w,by rw [List.getElem?_append_left o];exact e,x⟩
 ·obtain ⟨w,e,x⟩:=r2 (i-p) o
  refine ⟨w,by rw [cN o,hp];exact e,?_⟩
  have a:p+(i-p)=i:=o
  show R g w (f i)
  rw [<- a];exact x
end
section
variable {h:aD} {K:VP} {A:Option aG} {n cap m:Nat} {r c:Int} {ls:Nat->List UInt8}
def Jo{z:Int}(hz: -9223372036854775808<=z/\z<=9223372036854775807)(hK:∀ w h',h.le h'->RQ h' w (z:Rat)->K w.v h'):aI prog 157 #[I z] h K:=by
 refine (fnk func157 (own:=[2])) ?_
 exact Dy hz.1 hz.2 fun b A1 a c1 h' l i=>⟨_,_,_,_,rfl,hK _ h' l (A55 i)⟩
end
