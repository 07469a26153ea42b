/- A part. -/
import Derived.Test.YtkfhdoblhajcbaaGreatDoorG19
import Derived.Test.YtkfhdoblhajcbaaGreatDoorG23
open Go.Proofs.Tryz
set_option linter.all false
open _root_.Go.Addr renaming add->aC
open _root_.Go.Addr.mk renaming injEq->aU
open _root_.Go.Builtin renaming append_->bF
open Classical renaming byContradiction->dB
open _root_.Go.Instr renaming storeAt->aO,buildSlice->bM
open Int renaming toNat_natCast->bJ,mul_le_mul_of_nonneg_left->bO,pow_pos->bW,natCast_mul->cG,le_of_lt->cL,gcd->cX,eq_ofNat_of_zero_le->dH,mul_zero->dL,add_zero->dM
open List renaming replicate->aI,length_append->aT,take_append_drop->aV,toArray->bI,length_replicate->bL,append_assoc->bV,getElem_mem->bZ,take_of_length_le->cF,take_append_of_le_length->cQ,eq_nil_of_length_eq_zero->cR,getElem?_append_right->cY,getD_eq_getElem?_getD->cZ,getElem?_eq_getElem->dC,getElem?_cons_zero->dF,getElem?_cons_succ->dG
open List.cons renaming injEq->cV
open Nat renaming mul_le_mul_right->aD,le_refl->aF,zero_add->aH,div_lt_of_lt_mul->aL,zero_le->aQ,mul_le_mul->aW,add_mul_mod_self_right->aX,add_mul->aY,div_eq_of_lt->bD,add_mul_div_right->bK,pow_le_pow_right->bN,add_comm->bU,lt_irrefl->bX,mod_eq_of_lt->bY,mul_comm->cC,mod_lt->cD,add_zero->cK,pow_pos->cN,one_mul->cO,le_antisymm->cT,div_le_self->cU,lcm->cW,zero_mul->dJ,le_trans->dK
open Option.some renaming injEq->aM
open Rat renaming intCast_mul->aN,mul_comm->aR,divInt->aS,mul_zero->aZ,add_zero->bC,divInt_eq_div->bH,zero_mul->cJ,div_def->cM,zero_add->dI
open _root_.Go.Value renaming cells->bG
open _root_.Go renaming Addr->aG,TypeId->aK,Value->aP,Program->cI
open _root_.Go.Proofs.YtkfhdoblhajcbaaGreatDoor renaming Heap->aE,FCall->aJ,SliceT->cH,IsNum->dE
namespace Go.Proofs.YtkfhdoblhajcbaaGreatDoor
set_option maxRecDepth 20000
open Go
section
set_option maxRecDepth 100000
variable {h:aE} {K:VP}
end
def A59{x:Nat}{m:Nat}(hx:x<2^m)(hm:1<=m)(k:Nat):x^k<2^(m*k+1):=by
 have a:x^k<=(2^m)^k:=Nat.pow_le_pow_left (Nat.le_of_lt hx) k
 rw [<- Nat.pow_mul] at a
 grind
section
variable {h g:aE} {K:VP} {A B:Option aG} {s s':Bool} {an ac bn bc m:Nat} {x y:Int}
end
def A6l(B:Int):∀ {ts:List Int} {k:Nat} (_:k<ts.length) (v:Int),val B (ts.set k v)=val B ts+B^k*(v-ts.getD k 0)
 | [],k,h,v=>by simp at h
 | t::ts,0,h,v=>by simp [val];grind
 | t::ts,k+1,h,v=>by
  have ih:=A6l B (ts:=ts) (k:=k) gz0 v
  simp only [List.set_cons_succ,val,List.getD_cons_succ,ih,Int.pow_succ]
  grind
section
variable {h g:aE} {K:VP} {A B:Option aG} {s s':Bool} {an ac bn bc m:Nat} {x y:Int}
def A4m{hp:aE}{n c k:Nat}{ts:List Int}{ca:Int}(p:Pw hp g A n c ts)(hn:n=ts.length)(dt:Dig b64 ts)(hk:k<n)(hca:0<=ca/\ca<18446744073709551616){Q:Int->aE->Prop}
 (hQ:∀ h' ts',Pw h' g A n c ts'->n=ts'.length->Dig b64 ts'->val b64 ts'+b64^(k+1)*((ts.getD k 0+ca)/18446744073709551616)=val b64 ts+b64^k*ca->Q ((ts.getD k 0+ca)/18446744073709551616) h'):
 ∃ a,A=some a/\0<=(k:Int)/\(k:Int)<((n:Nat):Int)/\∃ (t:Int),Heap.cell? hp (aC a (((k:Int)).toNat*1))=some (U t)/\ECall prog 295 #[U t,U ca,U (0:Int)] hp (fun r hp1=>∃ (ta tb:Int),r= .tuple #[U ta,U tb]/\∃ a2,A=some a2/\0<=(k:Int)/\(k:Int)<((n:Nat):Int)/\wpH prog (aO 195 (.pointer (some (aC a2 (((k:Int)).toNat*1)))) (U ta)) (fun _ hp2=>Q tb hp2) hp1):=by
 have d:ts≠[]:=gz0
 obtain ⟨b,j,w,u⟩:=Ed p d
 have s:=O3 dt k
 refine w.sl.load hn o o ?_
 refine Cl s hca o ⟨_,_,rfl,?_⟩
 obtain ⟨a,l,_⟩:=SlV.at w.sl (i:=k) gz0
 refine ⟨a,l,o,o,w.storeN F7 l o ?_⟩
 intro q e
 simp only [dM] at e ⊢
 have f:=e.priv (m:=n) (c:=c) (by simp_all) gz0 gz0
 rw [cF gz0] at f
 refine hQ q _ f gz0 (dt.set (Do _)) ?_
 rw [A6l b64 o,Int.pow_succ]
 grind
def A9k{Invv1:LP}{muv1:LN}{TA:Option aG}{tn tc i x2n:Nat}{ts:List Int}{ca:Int}{hp8 hp7:aE}(p:Pw hp8 g TA tn tc ts)(hn:tn=ts.length)(dt:Dig b64 ts)(hle:i+x2n<=tn)(hca:0<=ca/\ca<18446744073709551616)(hl:tn<=1000000000)
 (hK:∀ TA' tn' tc' ts' h' g',g.le g'->Pw h' g' TA' tn' tc' ts'->tn'=ts'.length->Dig b64 ts'->val b64 ts'=val b64 ts+b64^(i+x2n)*ca->(tn'=tn\/(tn'=tn+1/\b64^tn<=val b64 ts'))->Invv1 [.slice TA' tn' tc',I (C3 ((i:Int)+1))] h'/\muv1 [.slice TA' tn' tc',I (C3 ((i:Int)+1))] h'<muv1 [.slice TA tn tc,I (i:Int)] hp7):
 Dc prog x2n Invv1 muv1 TA tn tc (i:Int) ca hp8 hp7:=by
 unfold Dc
 have X:C3 ((i:Int)+(x2n:Int))=((i+x2n:Nat):Int):=by rw [B9 o o];omega
 rw [X]
 refine ⟨fun L T=>∃ (k:Nat) (c1:Int) (j:List Int) (A1:Option aG) (a b:Nat) (s:aE),L=[.slice A1 a b,U c1,I k]/\g.le s/\Pw T s A1 a b j/\a=j.length/\Dig b64 j/\k<=a/\(0<=c1/\c1<18446744073709551616)/\val b64 j+b64^k*c1=val b64 ts+b64^(i+x2n)*ca/\(a=tn\/(a=tn+1/\c1=0/\b64^tn<=val b64 j)),fun L _=>tn+2-(iAt L 2).toNat,⟨i+x2n,ca,ts,TA,tn,tc,g,rfl,B6 _,p,hn,dt,hle,hca,rfl,.inl rfl⟩,?_⟩
 rintro A1 a b c1 k0 aa ⟨k,O,j,A1',ac,C,s,R,z,F,q,du,hk,d,hv,V⟩
 obtain ⟨⟨rfl,rfl,rfl⟩,rfl,rfl⟩:=R
 refine E6 (fun N=>?_) (fun N=>?_)
 ·have e:a=tn:=by
   omega
  have E:C3 ((k:Int)+1)=((k+1:Nat):Int):=by rw [B9 o o];omega
  have r:∀ (A H D G:aP),tn+2-(iAt [A,H,I ((k+1:Nat):Int)] 2).toNat<tn+2-(iAt [D,G,I (k:Int)] 2).toNat:=by
   intro A H D G
   simp only [iAt,dF,dG]
   omega
  refine D8 (fun w=>?_) (fun w=>?_)
  ·have n:k=a:=o
   refine Cs Q6 F rfl rfl o o ?_
   intro A2 c2 h2 Q l2 y
   rw [<- List.map_singleton (f:=Value.int .u64),<- List.map_append] at y
   have M:Dig b64 (j++[0]):=du.append (Dig.one dc)
   refine A4m y gz0 M o d ?_
   intro W m t l u c
   have S:(j++[0]).getD k 0=0:=by
    rw [n,q,List.getD,cY (aF _)];simp
   rw [S,Int.zero_add,Int.ediv_eq_zero_of_lt d.1 d.2] at c ⊢
   rw [E]
   rw [F2,dL,dM,dL,dM] at c
   refine ⟨⟨k+1,0,m,A2,a+1,c2,Q,rfl,B0 z l2,t,l,u,o,o,?_,.inr ⟨o,rfl,?_⟩⟩,r _ _ _ _⟩
   ·omega
   ·rw [c,<- e,<- n]
    have h5:=C9 (B:=b64) dc du
    have h6:b64^k*1<=b64^k*c1:=bO o (cL (bW dc))
    omega
  ·refine A4m F q du o d ?_
   intro W m t l u c
   rw [E]
   have gt:=O3 du k
   refine ⟨⟨k+1,_,m,A1,a,b,s,rfl,z,t,l,u,o,?_,?_,.inl e⟩,r _ _ _ _⟩
   ·omega
   omega
 grind
def B25{XA YA TA:Option aG}{xs ys ts:List Int}{x2n x2c y2n tn tc N:Nat}{hp4:aE}(p:Pw hp4 g TA tn tc ts)(hn:tn=ts.length)(dt:Dig b64 ts)(sx:SlI .u64 g XA xs)(hx:x2n=xs.length)(dx:Dig b64 xs)(sy:SlI .u64 g YA ys)(hy:y2n=ys.length)(dy:Dig b64 ys)(hxy:x2n+y2n<=tn)(hN:tn<=N)(hN2:N<=400000000)(hV:val b64 ts+val b64 xs*val b64 ys<b64^N)
 (hK:∀ TA' tn' tc' ts' h' g',g.le g'->Pw h' g' TA' tn' tc' ts'->tn'=ts'.length->Dig b64 ts'->val b64 ts'=val b64 ts+val b64 xs*val b64 ys->tn'<=N->K (.slice TA' tn' tc') h'):
 Me prog K XA x2n x2c YA y2n TA tn tc hp4:=by
 have M:=C9 (B:=b64) dc dx
 have i:∀ k,val b64 (ys.take k)<=val b64 ys:=by
  intro k
  have C:=G2 b64 (ys.take k) (ys.drop k)
  rw [aV] at C
  have h2:0<=b64^(ys.take k).length*val b64 (ys.drop k):=Int.mul_nonneg (cL (bW dc)) (C9 (B:=b64) dc (dy.drop k))
  omega
 refine ⟨fun L hp=>∃ (k:Nat) (a:List Int) (A1:Option aG) (j d:Nat) (F:aE),L=[.slice A1 j d,I k]/\g.le F/\Pw hp F A1 j d a/\j=a.length/\Dig b64 a/\k<=y2n/\val b64 a=val b64 ts+val b64 xs*val b64 (ys.take k)/\x2n+y2n<=j/\j<=N,fun L _=>y2n-(iAt L 1).toNat,⟨0,ts,TA,tn,tc,g,rfl,B6 _,p,hn,dt,o,by simp [val],hxy,hN⟩,?_⟩
 rintro A1 j d k0 af ⟨k,a,A1',ag,S,F,hL,u,T,aa,du,hk,hv,ad,Q⟩
 obtain ⟨⟨rfl,rfl,rfl⟩,rfl⟩:=hL
 refine C0 (fun C=>?_) (fun C=>?_)
 ·have gy:=O3 dy k
  have vy:=C6 b64 ys k
  have V:C3 ((k:Int)+(x2n:Int))=((k+x2n:Nat):Int):=by rw [B9 o o];omega
  refine (sy.mono (B0 u T.le)).load hy o o ?_
  have s:a≠[]:=gz0
  obtain ⟨b,W,w,hc⟩:=Ed T s
  refine ⟨⟨o,o⟩,⟨o,o⟩,?_⟩
  have f:((a.drop k).take (k+x2n-k)).length=xs.length:=gz0
  refine Gt (w.sub (l:=k) (m:=k+x2n) (c:=d) o o o) o (sx.mono u) hx ((du.drop k).take _) dx f gy o ?_
  intro r c h' e q A y w'
  rw [f] at e y
  have w2:=w.whole (l:=k) (m:=k+x2n) o o o w'
  refine ⟨_,rfl,?_⟩
  have ae:(a.take k++r++a.drop (k+x2n)).length=a.length:=by
   grind
  have n:a.take k++r++a.drop (k+x2n)≠[]:=by
   grind
  have O:=w2.priv (m:=j) (c:=d) n o o
  rw [cF o] at O
  have d2:Dig b64 (a.take k++r++a.drop (k+x2n)):=((du.take k).append q).append (du.drop _)
  have H:a=a.take k++((a.drop k).take (k+x2n-k)++a.drop (k+x2n)):=by
   have V:a.drop (k+x2n)=(a.drop k).drop (k+x2n-k):=by simp_all
   rw [V,aV,aV]
  have z:val b64 (a.take k++r++a.drop (k+x2n))+b64^(k+x2n)*c=val b64 a+b64^k*(val b64 xs*ys.getD k 0):=by
   have e2:val b64 a=val b64 (a.take k)+b64^k*(val b64 ((a.drop k).take (k+x2n-k))+b64^xs.length*val b64 (a.drop (k+x2n))):=by
    conv=>lhs;rw [H]
    rw [G2,G2,f,List.length_take,Nat.min_eq_left o]
   rw [e2,bV,G2,G2,List.length_take,Nat.min_eq_left o,e,hx,Int.pow_add]
   generalize b64^k=P at *
   generalize b64^xs.length=R at *
   grind
  refine A9k O o d2 o A o ?_
  intro TA' tn' tc' ts' h3 g3 l3 X D d3 ac G
  have t:val b64 ts'=val b64 ts+val b64 xs*val b64 (ys.take (k+1)):=by
   grind
  have E:tn'<=N:=by
   rcases G with h4|⟨h4,h5⟩
   ·omega
   ·have h6:=bO (i (k+1)) M
    grind
  have e3:C3 ((k:Int)+1)=((k+1:Nat):Int):=by rw [B9 o o];omega
  rw [e3]
  exact ⟨⟨k+1,ts',TA',tn',tc',g3,rfl,B0 u l3,X,D,d3,o,t,o,E⟩,by simp only [iAt,dF,dG];omega⟩
 grind
def Gv{TA XA YA:Option aG}{ts:List Int}{tn tc xn xc yn yc N:Nat}(p:Pw h g TA tn tc ts)(hn:tn=ts.length)(dt:Dig b64 ts)(ma:Mw g XA xn x)(mb:Mw g YA yn y)(hxc:xn<=xc)(hyc:yn<=yc)(hN:tn<=N)(hxy:xn+yn+1<=N)(hN2:N<=400000000)(hV:val b64 ts+x*y<b64^N)
 (hK:∀ TA' tn' tc' ts' h' g',g.le g'->Pw h' g' TA' tn' tc' ts'->tn'=ts'.length->Dig b64 ts'->val b64 ts'=val b64 ts+x*y->tn'<=N->K (.slice TA' tn' tc') h'):aJ prog 283 #[.slice TA tn tc,.slice XA xn xc,.slice YA yn yc] h K:=by
 refine Tl _ _ _ _ _ _ _ _ _ ?_
 refine ⟨fun L E=>E=h/\∃ (A1 B1:Option aG) (d c1 i c2:Nat) (j a:Int),L=[.slice A1 d c1,.slice B1 i c2]/\Mw g A1 d j/\Mw g B1 i a/\d<=c1/\i<=c2/\d+i=xn+yn/\j*a=x*y,C0 (fun _=>⟨rfl,_,_,_,_,_,_,y,x,rfl,mb,ma,hyc,hxc,oo,Int.mul_comm _ _⟩) (fun _=>⟨rfl,_,_,_,_,_,_,x,y,rfl,ma,mb,hxc,hyc,rfl,rfl⟩),?_⟩
 rintro A1 d c1 B1 i c2 E ⟨rfl,A1',B1',ad,ak,ae,ag,j,a,A,T,D,k1,k2,an,z⟩
 obtain ⟨⟨rfl,rfl,rfl⟩,rfl,rfl,rfl⟩:=A
 have aa:=D.nonneg dc
 refine ⟨fun L r=>∃ (A2 B2:Option aG) (e c3 k c4:Nat) (H X:Int) (l:aE),L=[.slice A2 e c3,.slice B2 k c4]/\g.le l/\Pw r l TA tn tc ts/\Mw l A2 e H/\Mw l B2 k X/\e+k<=xn+yn+1/\H*X=x*y,C0 (fun _=>?_) (fun _=>⟨_,_,_,_,_,_,j,a,g,rfl,B6 _,p,T,D,oo,z⟩),?_⟩
 ·refine p.call ?_
  refine H9 T D k1 k2 oo oo ?_
  intro A3 e c3 g3 l3 k3 M3 h3 p3
  refine ⟨_,_,_,rfl,?_⟩
  refine Q1 Q6 rfl ?_
  intro b F
  have t:g3 b=none:=by
   cases hx1:g3 b with
   | none=>rfl
   | some o=>rw [p3.le b o hx1] at F;cases F
  refine ⟨_,_,_,rfl,_,_,_,_,_,_,j*a,1,g3.put b (.cells #[U 1] 195),rfl,B0 l3 (Heap.le_put _ t),p3.put F _,M3.mono (Heap.le_put _ t),?_,?_,oo⟩
  ·refine ⟨[1],rfl,SlI.new _ _ _ _ _,?_,?_,?_⟩
   ·intro x hx;grind
   ·unfold Norm;simp
   rfl
  ·have s:=T.lt dc
   have C:=D.lt dc
   have O:j*a<b64^(d+i):=by
    rw [Int.pow_add]
    by_cases h0:a=0
    ·subst h0
     rw [dL]
     exact Int.mul_pos (bW dc) (bW dc)
    ·have h1:j*a<b64^d*a:=Int.mul_lt_mul_of_pos_right s oo
     have h2:b64^d*a<=b64^d*b64^i:=bO (cL C) (cL (bW dc))
     omega
   have:=M3.len_le dc O
   omega
 rintro A2 e c3 B2 k c4 r ⟨A2',B2',al,ao,aj,af,H,X,l,A,lg,p1,M1,M2,am,u⟩
 obtain ⟨⟨rfl,rfl,rfl⟩,rfl,rfl,rfl⟩:=A
 obtain ⟨xs,M,sx,dx,nx,rfl⟩:=M1
 obtain ⟨ys,V,sy,dy,ny,rfl⟩:=M2
 have e1:C3 ((e:Int)+(k:Int))=((e+k:Nat):Int):=by rw [B9 oo oo];omega
 refine ⟨fun L E=>∃ (m:List Int) (A5:Option aG) (q c5:Nat) (R:aE),L=[.slice A5 q c5]/\l.le R/\Pw E R A5 q c5 m/\q=m.length/\Dig b64 m/\val b64 m=val b64 ts/\q<=N,fun L _=>match L with|[.slice _ n _]=>e+k-n|_=>0,⟨ts,TA,tn,tc,l,rfl,B6 _,p1,hn,dt,rfl,hN⟩,?_⟩
 rintro A5 q c5 ac ⟨m,A5',ai,ah,R,A,c,p5,S,du,w,G⟩
 obtain ⟨rfl,rfl,rfl⟩:=A
 refine C0 (fun h1=>?_) (fun h1=>?_)
 ·refine Cs Q6 p5 rfl rfl oo oo ?_
  intro A6 c6 h6 g6 l6 p6
  rw [<- List.map_singleton (f:=Value.int .u64),<- List.map_append] at p6
  refine ⟨⟨m++[0],A6,q+1,c6,g6,rfl,B0 c l6,p6,gz0,du.append (Dig.one dc),by rw [F2,w];simp,oo⟩,?_⟩
  grind
 ·refine B25 (N:=N) p5 S du (sx.mono c) M dx (sy.mono c) V dy oo G hN2 oo ?_
  intro TA' tn' tc' ts' h' g' l' p' Q d' B W
  rw [w,u] at B
  exact hK TA' tn' tc' ts' h' g' (B0 lg (B0 c l')) p' Q d' B W
def SumS(h g:aE)(b:Nat)(e:aK)(N:Nat)(M v:Int):Prop:=∃ (PA NA:Option aG) (pn pc nn nc:Nat) (ps ns:List Int) (g1 g2:aE),Pw g1 g PA pn pc ps/\Pw g2 g1 NA nn nc ns/\g2 b=none/\h=g2.put b (.cells #[.slice PA pn pc,.slice NA nn nc] e)/\pn=ps.length/\nn=ns.length/\Dig b64 ps/\Dig b64 ns/\v=val b64 ps-val b64 ns/\pn<=N/\nn<=N/\val b64 ps+val b64 ns<=M
def SumS.le{b:Nat}{e:aK}{N:Nat}{M v:Int}(S:SumS h g b e N M v):g.le h:=by
 obtain ⟨PA,NA,j,l,nn,k,ps,ns,i,f,a,c,d,rfl,_⟩:=S
 exact B0 a.le (B0 c.le (Heap.le_put _ d))
def SumS.zero{b:Nat}{e:aK}{N:Nat}(hb:g b=none):SumS (g.put b (.cells #[.slice none 0 0,.slice none 0 0] e)) g b e N 0 0:=
 ⟨none,none,0,0,0,0,[],[],g,g,Priv.nil _ _ _ _,Priv.nil _ _ _ _,hb,rfl,rfl,rfl,Dig.nil,Dig.nil,o,o,o,by simp [val]⟩
def Hh:prog.cellsOf 217=1/\(prog.info? 217).isSome=true:=by constructor<;>kernel_rfl
def Af{b:Nat}{e:aK}{N:Nat}{M v:Int}{N1:Nat}(S:SumS h g b e N M v)(i:ZI g s A an ac x)(j:ZI g s' B bn bc y)(hab:an+bn+1<=N)(hN2:N<=400000000)(hM:M+(x*y).natAbs<b64^N1)(hN1:N1<=N)
 (hK:∀ h' g',g.le g'->SumS h' g' b e N (M+(x*y).natAbs) (v+x*y)->K (.tuple #[]) h'):aJ prog 255 #[.pointer (some ⟨b,0,none⟩),.agg #[.bool s,.slice A an ac],.agg #[.bool s',.slice B bn bc]] h K:=by
 have aa:=i.zeroIff
 have ad:=j.zeroIff
 have c1:=Dk i.sgn
 have c2:=Dk j.sgn
 refine (fnk func255 (own:=[4,5]) (wr:=[283])) ?_
 have same:x*y=0->K (.tuple #[]) h:=by
  intro C
  refine hK h g (B6 _) ?_
  grind
 refine D8 (fun C=>same gz0) (fun _=>D8 (fun C=>same gz0) (fun _=>?_))
 obtain ⟨PA,NA,pn,pc,nn,nc,ps,ns,g1,g2,D,R,V,rfl,w,m,dp,O,hv,u,z,T⟩:=S
 have ae:=C9 (B:=b64) dc dp
 have af:=C9 (B:=b64) dc O
 have ag:b64^N1<=b64^N:=D5 dc hN1
 have C:(aC ⟨b,0,none⟩ 0)=⟨b,0,none⟩:=Ey b 0 0
 have e1:(aC ⟨b,0,none⟩ 1)=⟨b,1,none⟩:=Ey b 0 1
 refine Br.of (fun hs=>?_) (fun hs=>?_)
 ·have X:x*y= -((x.natAbs:Int)*(y.natAbs:Int)):=by
   grind
  refine ⟨_,rfl,_,_,_,by rw [e1,D4];rfl,?_⟩
  refine FCall.frame (K:=fun r L=>∃ (TA':Option aG) (c d:Nat) (a:List Int) (g':aE),r= .slice TA' c d/\g1.le g'/\Pw L g' TA' c d a/\c=a.length/\Dig b64 a/\val b64 a=val b64 ns+(x.natAbs:Int)*(y.natAbs:Int)/\c<=N) V (Gv (N:=N) R m O (i.mag.mono D.le) (j.mag.mono D.le) i.cap j.cap z hab hN2 o (fun TA' c d a h' g' q t k p l f=>⟨TA',c,d,a,g',rfl,q,t,k,p,l,f⟩)) ?_
  ·rintro r G n ⟨TA',c,d,a,g',rfl,q,t,k,p,l,f⟩
   refine ⟨_,_,_,rfl,_,rfl,?_⟩
   refine Z5 Hh.1 Hh.2 rfl rfl (by simp) ?_
   obtain ⟨Q,H,E⟩:=D.after q
   refine hK _ Q H ⟨PA,TA',pn,pc,c,d,ps,a,g',G,E,t,n,rfl,w,k,dp,p,?_,u,f,?_⟩
   ·omega
   omega
 ·have W:x*y=(x.natAbs:Int)*(y.natAbs:Int):=by
   grind
  obtain ⟨g4,p4,F⟩:=R.swap D
  refine ⟨_,rfl,_,_,_,by rw [C,D4];rfl,?_⟩
  refine FCall.frame (K:=fun r L=>∃ (TA':Option aG) (c d:Nat) (a:List Int) (g':aE),r= .slice TA' c d/\g4.le g'/\Pw L g' TA' c d a/\c=a.length/\Dig b64 a/\val b64 a=val b64 ps+(x.natAbs:Int)*(y.natAbs:Int)/\c<=N) V (Gv (N:=N) p4 w dp (i.mag.mono F.le) (j.mag.mono F.le) i.cap j.cap u hab hN2 o (fun TA' c d a h' g' q t k p l f=>⟨TA',c,d,a,g',rfl,q,t,k,p,l,f⟩)) ?_
  ·rintro r G n ⟨TA',c,d,a,g',rfl,q,t,k,p,l,f⟩
   refine ⟨_,_,_,rfl,_,rfl,?_⟩
   refine Z5 Hh.1 Hh.2 rfl rfl (by simp) ?_
   obtain ⟨Q,H,E⟩:=F.after q
   obtain ⟨g6,p6,p7⟩:=t.swap E
   refine hK _ Q H ⟨TA',NA,c,d,nn,nc,a,ns,g6,G,p7,p6,n,rfl,k,m,p,O,?_,f,z,?_⟩
   ·omega
   omega
def Pb{b:Nat}{e:aK}{N:Nat}{M v:Int}{N1:Nat}(S:SumS h g b e N M v)(i:ZI g s A an ac x)(j:ZI g s' B bn bc y)(hab:an+bn+1<=N)(hN2:N<=400000000)(hM:M+(x*y).natAbs<b64^N1)(hN1:N1<=N)
 (hK:∀ h' g',g.le g'->SumS h' g' b e N (M+(x*y).natAbs) (v-x*y)->K (.tuple #[]) h'):aJ prog 256 #[.pointer (some ⟨b,0,none⟩),.agg #[.bool s,.slice A an ac],.agg #[.bool s',.slice B bn bc]] h K:=by
 refine (fnk func256 (os:=[(1,[0,1,3,2,4])]) (own:=[4,5]) (wr:=[255])) ?_
 refine Be (i.mono S.le) ?_
 intro f c
 refine ⟨_,_,_,_,rfl,B6 _,?_⟩
 have d:ZI g f A an ac (-x):=⟨i.cap,by rw [Int.natAbs_neg];exact i.mag,c.sgn⟩
 have a:(-x*y).natAbs=(x*y).natAbs:=gz0
 refine Af (N1:=N1) S d j hab hN2 o hN1 ?_
 grind
def Bp{XA YA:Option aG}{xn xc yn yc:Nat}(ma:Mw h XA xn x)(mb:Mw h YA yn y)(hyx:y<=x)(hl:xn<=1000000000)(hK:∀ A' m c' h',h.le h'->m<=c'->Mw h' A' m (x-y)->K (.slice A' m c') h'):aJ prog 284 #[.slice XA xn xc,.slice YA yn yc] h K:=by
 have l:yn<=xn:=mb.len_le dc (Int.lt_of_le_of_lt hyx (ma.lt dc))
 obtain ⟨A,c,p,s,C,rfl⟩:=ma
 obtain ⟨B,a,k,r,u,rfl⟩:=mb
 refine (fnk func284 (wr:=[291])) ?_
 refine J5 Q6 o o o ?_
 intro b j
 refine ⟨_,_,_,rfl,?_⟩
 have w:=Win.blk .u64 195 j (aI xn 0)
 refine Cw Q6 w (by simp) (p.mono w.le) c gz0 ?_
 intro z f
 refine ⟨_,rfl,?_⟩
 rw [List.drop_of_length_le gz0,List.append_nil] at f
 refine Dj f c k a s r o hyx o ?_
 intro zs t n d e g
 refine ⟨rfl,?_⟩
 refine Al g.sl d o e (aF _) o ?_
 intro m q i
 exact ⟨_,_,_,rfl,hK _ _ _ _ g.le q i⟩
def Kb{b:Nat}{e:aK}{N:Nat}{M v:Int}(S:SumS h g b e N M v)(hN2:N<=400000000)(hK:∀ s A n c h',h.le h'->ZI h' s A n c v->K (.agg #[.bool s,.slice A n c]) h'):aJ prog 257 #[.pointer (some ⟨b,0,none⟩)] h K:=by
 obtain ⟨PA,NA,k,l,nn,q,ps,ns,W,u,w,i,C,rfl,m,p,dp,O,hv,E,T,t⟩:=S
 have z:(aC ⟨b,0,none⟩ 0)=⟨b,0,none⟩:=Ey b 0 0
 have R:(aC ⟨b,0,none⟩ 1)=⟨b,1,none⟩:=Ey b 0 1
 have y:=Heap.le_put (.cells #[.slice PA k l,.slice NA nn q] e) C
 refine (fnk func257 (os:=[(1,[0,1,2,3,5,6,7,8,4,9,10,11])]) (own:=[2])) ?_
 refine ⟨_,rfl,_,_,_,by rw [z,D4];rfl,_,rfl,_,_,_,by rw [R,D4];rfl,?_⟩
 have B:SlI .u64 (u.put b (.cells #[.slice PA k l,.slice NA nn q] e)) PA ps:=SlI.mono y (SlI.mono i.le w.slV)
 have L:SlI .u64 (u.put b (.cells #[.slice PA k l,.slice NA nn q] e)) NA ns:=SlI.mono y i.slV
 refine Al B dp m rfl w.2.1 o ?_
 intro X F M1
 refine ⟨_,_,_,rfl,B6 _,?_⟩
 refine Al L O p rfl i.2.1 o ?_
 intro V G M2
 refine ⟨_,_,_,rfl,B6 _,?_⟩
 refine I9 M1 M2 o ⟨_,rfl,?_⟩
 refine C0 (fun r=>?_) (fun r=>?_)
 ·have a:val b64 ns<=val b64 ps:=by unfold Qa at r;omega
  refine Bp M1 M2 a o ?_
  intro A3 D c3 Q H j M3
  obtain ⟨d,f⟩:=dH (show 0<=val b64 ps-val b64 ns from o)
  rw [f] at M3
  refine ⟨_,_,_,rfl,N9 (v:=d) M3 j ?_⟩
  grind
 ·have a:val b64 ps<=val b64 ns:=by
   unfold Qa at r
   omega
  refine Bp M2 M1 a o ?_
  intro A3 D c3 Q H j M3
  obtain ⟨d,f⟩:=dH (show 0<=val b64 ns-val b64 ps from o)
  rw [f] at M3
  refine ⟨_,_,_,rfl,N9 (v:=d) M3 j ?_⟩
  grind
def A6f(gl:Gtz h)(i:ZI h s A an ac x)(j:ZI h s' B bn bc y)(hx:ZB m x)(hy:ZB m y)(hm:m<=6400000000)(hK:∀ A' n' c' h',h.le h'->ZI h' false A' n' c' (Int.lcm x y:Int)->K (.agg #[.bool false,.slice A' n' c']) h'):aJ prog 253 #[.agg #[.bool s,.slice A an ac],.agg #[.bool s',.slice B bn bc]] h K:=by
 have c:=i.zeroIff
 have d:=j.zeroIff
 have g:=i.len hx hm
 have a:=j.len hy hm
 refine (fnk func253 (own:=[2,3,4])) ?_
 refine D8 (fun l=>?_) (fun O=>D8 (fun l=>?_) (fun H=>?_))
 ·refine hK none 0 0 h (B6 _) ?_
  rw [c.2 o,Int.lcm_zero_left];exact ZI.zero
 ·refine hK none 0 0 h (B6 _) ?_
  rw [d.2 o,Int.lcm_zero_right];exact ZI.zero
 ·refine Li gl i.mag j.mag i.cap j.cap g a ?_
  intro A3 p c3 M b r M3
  refine ⟨_,_,_,rfl,b,?_⟩
  rw [Int.gcd_natCast_natCast] at M3
  have E:Nat.gcd x.natAbs y.natAbs≠0:=fun e=>by
   grind
  have w:p<=100000000:=by
   refine dK (M3.len_le dc (j:=bn) ?_) a
   have t:=j.mag.lt dc
   have n:Nat.gcd x.natAbs y.natAbs<=y.natAbs:=Nat.gcd_le_right _ o
   omega
  refine T5 (j.mag.mono b) M3 j.cap r o o o ?_
  intro A4 q c4 A5 D c5 F f C G M4 M5
  refine ⟨_,_,_,_,_,_,rfl,f,?_⟩
  have k:q<=100000000:=by
   refine dK (M4.len_le dc (j:=bn) ?_) a
   have t:=j.mag.lt dc
   have n:=cU y.natAbs (Nat.gcd x.natAbs y.natAbs)
   omega
  refine H9 (i.mag.mono (B0 b f)) M4 i.cap C o o ?_
  intro A6 L c6 N z u M6
  refine ⟨_,_,_,rfl,hK _ _ _ _ (B0 b (B0 f z)) ⟨u,?_,?_⟩⟩
  ·have:Int.lcm x y=x.natAbs*(y.natAbs/Nat.gcd x.natAbs y.natAbs):=by
    show cW x.natAbs y.natAbs=_
    rw [cW,Nat.mul_div_assoc _ (Nat.gcd_dvd_right _ _)]
   grind
  rfl
end
abbrev RQr:aE->QV->Rat->Prop:=fun h w q=>RQ h w q
abbrev NQr:aE->QV->Rat->Prop:=fun h w q=>NQ h w q
abbrev ZIr:aE->IV->Int->Prop:=fun h w z=>ZI h w.s w.A w.n w.c z
abbrev SSr:aE->List UInt8->List UInt8->Prop:=fun _ w s=>w=s
def Mon{α β:Type}(R:aE->α->β->Prop):Prop:=∀ (h h':aE) (w:α) (x:β),h.le h'->R h w x->R h' w x
def G1:Mon RQr:=fun _ _ _ _ a i=>⟨i.num.mono a,i.den.mono a⟩
def F3:Mon NQr:=fun _ _ _ _ a i=>NQ.mono a i
def Cu:Mon ZIr:=fun _ _ _ _ a i=>i.mono a
def E8:Mon SSr:=fun _ _ _ _ _ i=>i
instance:Enc QV:=⟨⟨fun w=>[.bool w.s,.slice w.A w.n w.c,.bool w.s2,.slice w.A2 w.n2 w.c2],4,fun _=>rfl,fun w v hv=>by simp at hv;rcases hv with rfl|rfl|rfl|rfl<;>rfl⟩⟩
section
variable {α β:Type}
def Row(R:aE->α->β->Prop)(g:aE)(xs:List α)(n:Nat)(f:Nat->β):Prop:=∀ i,i<n->∃ w,xs[i]? = some w/\R g w (f i)
variable {R:aE->α->β->Prop} {g g' h h':aE} {xs:List α} {n:Nat} {f:Nat->β}
def Row.mono(m:Mon R)(hl:g.le g')(r:Row R g xs n f):Row R g' xs n f:=fun i b=>by
 obtain ⟨w,e,a⟩:=r i b
 exact ⟨w,e,m _ _ _ _ hl a⟩
def Row.nil:Row R g xs 0 f:=fun i a=>by omega
def Row.set{k:Nat}(r:Row R g xs k f)(hk:k<xs.length){w:α}(hw:R g w (f k)):Row R g (xs.set k w) (k+1) f:=fun i a=>by
 by_cases e:i=k
 ·grind
 ·obtain ⟨u,c,b⟩:=r i o
  grind
def Row.upd(r:Row R g xs n f){k:Nat}(hk:k<xs.length){w:α}{y:β}(hw:R g w y):Row R g (xs.set k w) n (fun i=>if i=k then y else f i):=fun i a=>by
 by_cases e:i=k
 ·grind
 ·obtain ⟨u,c,b⟩:=r i a
  grind
def Row.push(r:Row R g xs xs.length f){w:α}(hw:R g w (f xs.length)):Row R g (xs++[w]) (xs++[w]).length f:=fun i a=>by
 by_cases e:i=xs.length
 ·grind
 ·obtain ⟨u,c,b⟩:=r i gz0
  grind
def Row.congr{f':Nat->β}(r:Row R g xs n f)(h:∀ i,i<n->f i=f' i):Row R g xs n f':=fun i a=>by
 obtain ⟨w,e,b⟩:=r i a
 grind
def Row.get(r:Row R g xs n f){i:Nat}(hi:i<n)(hl:i<xs.length):R g xs[i] (f i):=by
 obtain ⟨w,e,a⟩:=r i hi
 grind
variable [E:Enc α]
def RowV(R:aE->α->β->Prop)(h:aE)(A:Option aG)(n:Nat)(f:Nat->β):Prop:=∃ xs:List α,SlF h A xs/\xs.length=n/\Row R h xs n f
def RowV.mono(m:Mon R){A:Option aG}(hl:h.le h')(r:RowV R h A n f):RowV R h' A n f:=by
 obtain ⟨a,s,e,r⟩:=r
 exact ⟨a,s.mono hl,e,r.mono m hl⟩
def RowV.nil{A:Option aG}:RowV R h A 0 f:=⟨[],SlF.nil,rfl,Row.nil⟩
def RowV.congr{A:Option aG}{f':Nat->β}(r:RowV R h A n f)(e:∀ i,i<n->f i=f' i):RowV R h A n f':=by
 obtain ⟨a,s,l,r⟩:=r
 exact ⟨a,s,l,r.congr e⟩
def RowV.cut{A:Option aG}(r:RowV R h A n f){c l k:Nat}(hlk:l+k<=n)(hc:n<=c):RowV R h (T9 A c l E.default.size) k (fun i=>f (l+i)):=by
 obtain ⟨a,s,e,r⟩:=r
 refine ⟨(a.drop l).take (l+k-l),s.cut (l:=l) (m:=l+k) o o o,gz0,fun i d=>?_⟩
 obtain ⟨w,g,b⟩:=r (l+i) o
 grind
def RowV.at(pos:0<E.default.size){A:Option aG}(r:RowV R h A n f){i:Nat}(hi:i<n):∃ a w,A=some a/\R h w (f i)/\∀ j v,(enc w)[j]? = some v->h.cell? (aC (aC a (i*E.default.size)) j)=some v:=by
 obtain ⟨b,s,e,r⟩:=r
 obtain ⟨a,c,d⟩:=SlF.at pos s (i:=i) o
 exact ⟨a,b[i],c,r.get hi o,d⟩
structure Own (R:aE->α->β->Prop) (h h':aE) (b n:Nat) (f:Nat->β):Prop where
 ex:∃ g o xs,h.le g/\Sep h' g o/\RowX o b xs/\xs.length=n/\Row R g xs n f
def Own.le{b:Nat}(w:Own R h h' b n f):h.le h':=by
 obtain ⟨g,o,a,l,s,_⟩:=w.ex
 exact B0 l s.le
def Own.vis(m:Mon R){b:Nat}(w:Own R h h' b n f):RowV R h' (some ⟨b,0,none⟩) n f:=by
 obtain ⟨g,o,a,l,s,r,e,q⟩:=w.ex
 exact ⟨a,r.rowB.slF s.ole,e,q.mono m s.le⟩
end
section
variable {h:aE} {A:Option aG} {n:Nat}
def RowV.qat{R:aE->QV->Rat->Prop}{f:Nat->Rat}(r:RowV R h A n f){i:Nat}(hi:i<n):∃ a w,A=some a/\R h w (f i)/\h.cell? (aC (aC a (i*4)) 0)=some (.bool w.s)/\h.cell? (aC (aC a (i*4)) 1)=some (.slice w.A w.n w.c)/\h.cell? (aC (aC a (i*4)) 2)=some (.bool w.s2)/\h.cell? (aC (aC a (i*4)) 3)=some (.slice w.A2 w.n2 w.c2):=by
 obtain ⟨a,w,e,d,b⟩:=r.at dc hi
 exact ⟨a,w,e,d,b 0 _ rfl,b 1 _ rfl,b 2 _ rfl,b 3 _ rfl⟩
def RowV.zat{f:Nat->Int}(r:RowV ZIr h A n f){i:Nat}(hi:i<n):∃ a w,A=some a/\ZIr h w (f i)/\h.cell? (aC (aC a (i*2)) 0)=some (.bool w.s)/\h.cell? (aC (aC a (i*2)) 1)=some (.slice w.A w.n w.c):=by
 obtain ⟨a,w,e,d,b⟩:=r.at dc hi
 exact ⟨a,w,e,d,b 0 _ rfl,b 1 _ rfl⟩
def RowV.sat{f:Nat->List UInt8}(r:RowV SSr h A n f){i:Nat}(hi:i<n):∃ a,A=some a/\h.cell? (aC a (i*1))=some (.string (bs (f i))):=by
 obtain ⟨a,w,e,c,d⟩:=r.at dc hi
 have b:w=f i:=c
 subst b
 refine ⟨a,e,?_⟩
 have:=d 0 _ rfl
 assumption
end
section
set_option maxRecDepth 100000
variable {h:aE} {K:VP}
def Pa:cH prog 22 3 (I 0) 1 8:=⟨by kernel_rfl,by kernel_rfl,rfl,dc⟩
def Jz:prog.cellsOf 3=1/\(prog.info? 3).isSome=true:=⟨by kernel_rfl,by kernel_rfl⟩
def Xq:cH prog 232 244 (Qv false none 0 0 false none 0 0) 4 64:=⟨by kernel_rfl,by kernel_rfl,rfl,dc⟩
def Eg:prog.cellsOf 244=4/\(prog.info? 244).isSome=true:=⟨by kernel_rfl,by kernel_rfl⟩
def tZs:cH prog 285 219 (Zv false none 0 0) 2 32:=⟨by kernel_rfl,by kernel_rfl,rfl,dc⟩
def Qi:prog.cellsOf 219=2/\(prog.info? 219).isSome=true:=⟨by kernel_rfl,by kernel_rfl⟩
def A6v:cH prog 26 27 (N0) 1 24:=⟨by kernel_rfl,by kernel_rfl,rfl,dc⟩
def B9c:cH prog 319 322 (.agg #[Sl none 0 0,.bool false,Sl none 0 0]) 3 56:=⟨by kernel_rfl,by kernel_rfl,rfl,dc⟩
def B69:cH prog 39 31 (N0) 1 24:=⟨by kernel_rfl,by kernel_rfl,rfl,dc⟩
def Xn:∀ (args:Array aP) (W:World),(callFunc 251 args).run prog W= .ok (.enter 251 args) W:=call251
end
end Go.Proofs.YtkfhdoblhajcbaaGreatDoor
namespace Go.Proofs.YtkfhdoblhajcbaaGreatDoor
set_option maxRecDepth 20000
def sm:Nat->(Nat->Rat)->Rat
 | 0,_=>0
 | n+1,f=>sm n f+f n
def C4{n:Nat}{f g:Nat->Rat}(h:∀ i,i<n->f i=g i):sm n f=sm n g:=by
 induction n with
 | zero=>rfl
 | succ n ih=>rw [sm,sm,ih (fun i a=>h i o),h n o]
def N8{n:Nat}{f:Nat->Rat}(h:∀ i,i<n->f i=0):sm n f=0:=by
 induction n with
 | zero=>rfl
 | succ n ih=>rw [sm,ih (fun i a=>h i o),h n o];exact bC 0
def Bi(n:Nat)(f g:Nat->Rat):sm n (fun i=>f i+g i)=sm n f+sm n g:=by
 induction n with
 | zero=>simp only [sm];exact (bC 0).symm
 | succ n ih=>simp only [sm];rw [ih];grind
def J9(n:Nat)(a:Rat)(f:Nat->Rat):sm n (fun i=>a*f i)=a*sm n f:=by
 induction n with
 | zero=>simp only [sm];grind
 | succ n ih=>simp only [sm];rw [ih];grind
def Ke(n:Nat)(f:Nat->Rat):sm n (fun i=> - f i)= - sm n f:=by
 induction n with
 | zero=>simp only [sm];grind
 | succ n ih=>simp only [sm];rw [ih];grind
def T6(n m:Nat)(f:Nat->Nat->Rat):sm n (fun i=>sm m (f i))=sm m (fun j=>sm n (fun i=>f i j)):=by
 induction n with
 | zero=>rw [sm];exact (N8 fun _ _=>rfl).symm
 | succ n ih=>simp only [sm];rw [ih,<- Bi]
def U9{n k:Nat}(hk:k<n){f:Nat->Rat}(h:∀ i,i<n->i≠k->f i=0):sm n f=f k:=by
 induction n with
 | zero=>omega
 | succ n ih=>
  rw [sm]
  by_cases e:k=n
  ·subst e;rw [N8 fun i b=>h i o o];exact dI _
  ·rw [ih o fun i b a=>h i o a,h n o o];exact bC _
def rhx(l i:Nat):Nat:=if i<l then i else i+1
def B6i(l i:Nat):rhx l i≠l:=by unfold rhx;split<;>omega
def A3l{l i k:Nat}(hi:i<k):rhx l i<k+1:=by unfold rhx;split<;>omega
def B6c{k a:Nat}(ha:a<=k)(t:Nat->Rat):sm k (fun i=>t (rhx a i))=sm (k+1) (fun b=>if b=a then 0 else t b):=by
 induction k generalizing a with
 | zero=>
  show (0:Rat)=0+(if 0=a then 0 else t 0)
  rw [iP o];exact (bC 0).symm
 | succ k ih=>
  show sm k (fun i=>t (rhx a i))+t (rhx a k)=sm (k+1) (fun b=>if b=a then 0 else t b)+(if k+1=a then 0 else t (k+1))
  by_cases e:a=k+1
  ·rw [iP e.symm,bC]
   show sm k (fun i=>t (rhx a i))+t (rhx a k)=sm k (fun b=>if b=a then 0 else t b)+(if k=a then 0 else t k)
   rw [iN o]
   congr 1
   ·exact C4 fun i c=>by rw [rhx,iP o,iN o]
   ·rw [rhx,iP o]
  ·rw [ih o,iN (fun x=>e x.symm)]
   congr 1
   rw [rhx,iN o]
def sg(n:Nat):Rat:=if n%2=0 then 1 else -1
def dt:Nat->(Nat->Nat->Rat)->Rat
 | 0,_=>1
 | k+1,X=>sm (k+1) fun l=>sg (k+l)*X k l*dt k (fun c r=>X c (rhx l r))
def V7{k:Nat}: ∀ {X Y:Nat->Nat->Rat},(∀ c r,c<k->r<k->X c r=Y c r)->dt k X=dt k Y:=by
 induction k with
 | zero=>intros;rfl
 | succ k ih=>
  intro X Y h
  rw [dt,dt]
  refine C4 fun l a=>?_
  rw [h k l o a,ih fun c r d b=>h c (rhx l r) o (A3l b)]
def rc(X:Nat->Nat->Rat)(m:Nat)(y:Nat->Rat):Nat->Nat->Rat:=fun c r=>if c=m then y r else X c r
def Em(X:Nat->Nat->Rat)(m:Nat)(y:Nat->Rat)(l:Nat):(fun c r=>rc X m y c (rhx l r))=rc (fun c r=>X c (rhx l r)) m (fun r=>y (rhx l r)):=by
 funext c r;unfold rc;split<;>rfl
def A0g{k:Nat}: ∀ (X:Nat->Nat->Rat) {m:Nat} (_:m<k) (y z:Nat->Rat),dt k (rc X m fun r=>y r+z r)=dt k (rc X m y)+dt k (rc X m z):=by
 induction k with
 | zero=>intros;omega
 | succ k ih=>
  intro X m a y z
  rw [dt,dt,dt,<- Bi]
  refine C4 fun l b=>?_
  by_cases e:m=k
  ·subst e
   have:∀ u:Nat->Rat,dt m (fun c r=>rc X m u c (rhx l r))=dt m (fun c r=>X c (rhx l r)):=fun u=>V7 fun c r d _=>by rw [rc,iN o]
   rw [this,this,this]
   simp only [rc,if_true]
   grind
  ·rw [Em,Em,Em,ih _ o]
   simp only [rc,iN (fun x:k=m=>e x.symm)]
   grind
def A8x{k:Nat}: ∀ (X:Nat->Nat->Rat) {m:Nat} (_:m<k) (a:Rat) (y:Nat->Rat),dt k (rc X m fun r=>a*y r)=a*dt k (rc X m y):=by
 induction k with
 | zero=>intros;omega
 | succ k ih=>
  intro X m b a y
  rw [dt,dt,<- J9]
  refine C4 fun l d=>?_
  by_cases e:m=k
  ·subst e
   have:∀ u:Nat->Rat,dt m (fun c r=>rc X m u c (rhx l r))=dt m (fun c r=>X c (rhx l r)):=fun u=>V7 fun c r f _=>by rw [rc,iN o]
   rw [this,this]
   simp only [rc,if_true]
   grind
  ·rw [Em,Em,ih _ o]
   simp only [rc,iN (fun x:k=m=>e x.symm)]
   grind
def B59{k:Nat}(X:Nat->Nat->Rat){m:Nat}(hm:m<k):dt k (rc X m fun _=>0)=0:=by
 have:=A8x X hm 0 (fun _=>0)
 rw [cJ] at this
 simpa only [cJ] using this
def B3d{k:Nat}(X:Nat->Nat->Rat){m:Nat}(hm:m<k)(a:Nat->Rat)(Y:Nat->Nat->Rat):∀ n,dt k (rc X m fun r=>sm n fun t=>a t*Y t r)=sm n fun t=>a t*dt k (rc X m (Y t)):=by
 intro n
 induction n with
 | zero=>exact B59 X hm
 | succ n ih=>
  simp only [sm]
  rw [A0g X hm,ih,A8x X hm]
def A1z(X:Nat->Nat->Rat)(m:Nat):rc X m (X m)=X:=by
 funext c r;unfold rc;split
 ·rename_i e;rw [e]
 ·rfl
def A4f{k:Nat}(X:Nat->Nat->Rat)(h:∀ r,r<k+2->X k r=X (k+1) r):dt (k+2) X=0:=by
 let mn:Nat->Nat->Rat:=fun a b=>dt k (fun c r=>X c (if a<b then rhx a (rhx (b-1) r) else rhx b (rhx (a-1) r)))
 let G:Nat->Nat->Rat:=fun a b=>if a=b then 0 else if b<a then sg (a+b)*X (k+1) a*X (k+1) b*mn a b else-(sg (a+b)*X (k+1) a*X (k+1) b*mn a b)
 have m:∀ a b,mn a b=mn b a:=by
  intro a b
  show dt k _=dt k _
  refine V7 fun c r _ _=>?_
  by_cases d:a<b
  ·rw [iP d,iN o]
  ·by_cases n:b<a
   ·rw [iN d,iP n]
   ·have:a=b:=o
    subst this;rfl
 have t:∀ a b,G b a= - G a b:=by
  intro a b
  show (if b=a then 0 else if a<b then _ else _)= - (if a=b then 0 else if b<a then _ else _)
  by_cases e:a=b
  ·rw [iP e,iP e.symm];grind
  ·rw [iN e,iN (fun x=>e x.symm)]
   have z:=m a b
   by_cases d:a<b
   ·rw [iP d,iN o,bU b a];grind
   ·rw [iN d,iP o,bU b a];grind
 have f:dt (k+2) X=sm (k+2) fun a=>sm (k+2) fun b=>G a b*sg (k+1+k):=by
  rw [dt]
  refine C4 fun a u=>?_
  have p:(fun b=>G a b*sg (k+1+k))=(fun b=>if b=a then 0 else (fun b=>G a b*sg (k+1+k)) b):=by
   funext b
   by_cases e:b=a
   ·subst e;rw [iP rfl];show (if b=b then 0 else _)*_=_;rw [iP rfl];grind
   ·rw [iN e]
  rw [p,<- B6c o (fun b=>G a b*sg (k+1+k)),dt,<- J9]
  refine C4 fun i s=>?_
  have l:X k (rhx a i)=X (k+1) (rhx a i):=h _ (A3l s)
  have j:dt k (fun c r=>X c (rhx a (rhx i r)))=mn a (rhx a i):=by
   show _=dt k _
   refine V7 fun c r _ _=>?_
   by_cases d:i<a
   ·have g:rhx a i=i:=by rw [rhx,iP d]
    rw [g,iN o]
    congr 1
    simp only [rhx]
    repeat' split
    all_goals omega
   ·have g:rhx a i=i+1:=by rw [rhx,iN d]
    rw [g,iP o,Nat.add_sub_cancel]
  rw [l,j]
  show _=(if a=rhx a i then 0 else if rhx a i<a then _ else _)*_
  rw [iN (fun e=>B6i a i e.symm)]
  have w:∀ x y:Nat,x%2=y%2->sg x=sg y:=fun x y e=>by unfold sg;rw [e]
  by_cases d:i<a
  ·have g:rhx a i=i:=by rw [rhx,iP d]
   rw [g,iP d]
   have q:sg (k+1+a)*sg (k+i)=sg (a+i)*sg (k+1+k):=by
    unfold sg
    repeat' split
    all_goals first|omega|grind
   grind
  ·have g:rhx a i=i+1:=by rw [rhx,iN d]
   rw [g,iN o]
   have q:sg (k+1+a)*sg (k+i)= - sg (a+(i+1))*sg (k+1+k):=by
    unfold sg
    repeat' split
    all_goals first|omega|grind
   grind
 have n:dt (k+2) X= - dt (k+2) X:=by
  have:dt (k+2) X=sm (k+2) fun a=>sm (k+2) fun b=>G b a*sg (k+1+k):=by
   rw [f];exact T6 _ _ _
  refine this.trans ?_
  rw [f,<- Ke]
  refine C4 fun a _=>?_
  rw [<- Ke]
  exact C4 fun b _=>by rw [t];grind
 grind
def B5b:∀ {k:Nat} (X:Nat->Nat->Rat) {p q:Nat} (_:p<q) (_:q<k) (_:∀ r,r<k->X p r=X q r),dt k X=0:=by
 intro k
 induction k with
 | zero=>intros;omega
 | succ k ih=>
  intro X p q f B h
  by_cases e:q=k
  ·subst e
   by_cases A:p+1=q
   ·subst A
    exact A4f X h
   ·
    obtain ⟨k',rfl⟩:∃ k',q=k'+1:=⟨q-1,o⟩
    have j:p<k':=o
    have swap:∀ (Z:Nat->Nat->Rat),dt (k'+1) (rc (rc Z p (Z k')) k' (Z p))= - dt (k'+1) Z:=by
     intro Z
     have i:∀ y:Nat->Rat,dt (k'+1) (rc (rc Z p y) k' y)=0:=fun y=>ih _ j o fun r _=>by
      unfold rc;rw [iN o,iP rfl,iP rfl]
     have comm:∀ y z:Nat->Rat,rc (rc Z p y) k' z=rc (rc Z k' z) p y:=by
      intro y z;funext c r;unfold rc
      by_cases b:c=k'
      ·by_cases a:c=p
       ·omega
       ·rw [iP b,iN a,iP b]
      ·by_cases a:c=p
       ·rw [iN b,iP a,iP a]
       ·rw [iN b,iN a,iN a,iN b]
     have d:=i (fun r=>Z p r+Z k' r)
     rw [A0g _ o] at d
     rw [comm _ (Z p),comm _ (Z k'),A0g _ o,A0g _ o] at d
     rw [<- comm,<- comm,<- comm,<- comm] at d
     rw [i (Z p),i (Z k')] at d
     have s:rc (rc Z p (Z p)) k' (Z k')=Z:=by rw [A1z,A1z]
     rw [s] at d
     grind
    have w:dt (k'+1+1) X= - dt (k'+1+1) (rc (rc X p (X k')) k' (X p)):=by
     rw [dt,dt,<- Ke]
     refine C4 fun l _=>?_
     have t:rc (rc X p (X k')) k' (X p) (k'+1) l=X (k'+1) l:=by unfold rc;rw [iN o,iN o]
     have m:(fun c r=>rc (rc X p (X k')) k' (X p) c (rhx l r))=rc (rc (fun c r=>X c (rhx l r)) p (fun r=>X k' (rhx l r))) k' (fun r=>X p (rhx l r)):=by
      rw [Em,Em]
     have:=swap (fun c r=>X c (rhx l r))
     rw [t,m,this]
     grind
    rw [w,A4f _ fun r g=>?_]
    ·grind
    ·have n:rc (rc X p (X k')) k' (X p) k' r=X p r:=by unfold rc;rw [iP rfl]
     have u:rc (rc X p (X k')) k' (X p) (k'+1) r=X (k'+1) r:=by unfold rc;rw [iN o,iN o]
     rw [n,u];exact h r g
  ·rw [dt]
   refine N8 fun l _=>?_
   rw [ih _ f o fun r g=>h (rhx l r) (A3l g)]
   grind
def B5a{k:Nat}(X:Nat->Nat->Rat)(h:∀ r,r<k->X k r=0):dt (k+1) X=X k k*dt k X:=by
 rw [dt,U9 (k:=k) o fun i e b=>by rw [h i o];grind]
 have:dt k (fun c r=>X c (rhx k r))=dt k X:=V7 fun c r _ d=>by rw [rhx,iP d]
 have a:sg (k+k)=1:=by unfold sg;rw [iP o]
 rw [this,a,Rat.one_mul]
def Wh(q:Rat):Prop:=∃ z:Int,q=(z:Rat)
def Wh.add{p q:Rat}(hp:Wh p)(hq:Wh q):Wh (p+q):=by
 obtain ⟨a,rfl⟩:=hp;obtain ⟨b,rfl⟩:=hq
 exact ⟨a+b,by rw [Rat.intCast_add]⟩
def Wh.mul{p q:Rat}(hp:Wh p)(hq:Wh q):Wh (p*q):=by
 obtain ⟨a,rfl⟩:=hp;obtain ⟨b,rfl⟩:=hq
 exact ⟨a*b,by rw [aN]⟩
def Wh.sg(n:Nat):Wh (sg n):=by
 unfold Go.Proofs.YtkfhdoblhajcbaaGreatDoor.sg
 split
 ·exact ⟨1,rfl⟩
 ·exact ⟨-1,by decide +kernel⟩
def Wh.sm{n:Nat}{f:Nat->Rat}(h:∀ i,i<n->Wh (f i)):Wh (sm n f):=by
 induction n with
 | zero=>exact ⟨0,rfl⟩
 | succ n ih=>exact (ih fun i a=>h i o).add (h n o)
def B8l{k:Nat}: ∀ {X:Nat->Nat->Rat},(∀ c r,c<k->r<k->Wh (X c r))->Wh (dt k X):=by
 induction k with
 | zero=>intro X _;exact ⟨1,rfl⟩
 | succ k ih=>
  intro X h
  rw [dt]
  refine Wh.sm fun l a=>?_
  exact ((Wh.sg _).mul (h k l o a)).mul (ih fun c r d b=>h c _ o (A3l b))
structure Elim (n w:Nat) (B R:Nat->Nat->Rat) (cs:Nat->Nat) (k:Nat):Prop where
 kn:k<=n
 cw:∀ m,m<k->cs m<w
 piv:∀ l m,l<k->m<k->R l (cs m)=if l=m then 1 else 0
 low:∀ i m,i<n->k<=i->m<k->R i (cs m)=0
 top:∀ l j,l<k->j<w->B l j=sm k fun m=>B l (cs m)*R m j
 bot:∀ i j,i<n->k<=i->j<w->B i j=R i j+sm k fun m=>B i (cs m)*R m j
def dp(B:Nat->Nat->Rat)(cs:Nat->Nat)(k:Nat):Rat:=dt k fun c r=>B r (cs c)
section
variable {n w:Nat} {B R:Nat->Nat->Rat} {cs:Nat->Nat} {k:Nat}
def Elim.below(E:Elim n w B R cs k){i j:Nat}(hi:i<n)(hk:k<=i)(hj:j<w):dp B cs k*R i j=dt (k+1) fun c r=>B (if r<k then r else i) (if c<k then cs c else j):=by
 have d:(fun c r=>B (if r<k then r else i) (if c<k then cs c else j))=rc (fun c r=>B (if r<k then r else i) (cs c)) k (fun r=>B (if r<k then r else i) j)\/True:=.inr trivial
 clear d
 let X:Nat->Nat->Rat:=fun c r=>B (if r<k then r else i) (cs c)
 have e:dt (k+1) (fun c r=>B (if r<k then r else i) (if c<k then cs c else j))=dt (k+1) (rc X k fun r=>(sm k fun t=>R t j*X t r)+(if r<k then 0 else R i j)):=by
  refine V7 fun c r g b=>?_
  unfold rc
  by_cases h:c=k
  ·subst h
   rw [iN (bX c),iP rfl]
   show _=(sm c fun t=>R t j*X t r)+(if r<c then 0 else R i j)
   by_cases a:r<c
   ·rw [iP a,iP a,bC,E.top r j a hj]
    refine C4 fun m _=>?_
    show _=_*B (if r<c then r else i) (cs m)
    rw [iP a,aR]
   ·rw [iN a,iN a,E.bot i j hi hk hj,Rat.add_comm]
    congr 1
    refine C4 fun m _=>?_
    show _=_*B (if r<c then r else i) (cs m)
    rw [iN a,aR]
  ·rw [iN h,iP (show c<k from o)]
 rw [e,A0g _ o,B3d X o (fun t=>R t j) X]
 rw [N8 fun t f=>by
  rw [B5b (rc X k (X t)) (p:=t) (q:=k) f o fun r _=>by unfold rc;rw [iN o,iP rfl]]
  exact aZ _]
 rw [B5a _ fun r b=>by unfold rc;rw [iP rfl];show (if r<k then 0 else R i j)=0;rw [iP b]]
 have l:dt k (rc X k fun r=>if r<k then 0 else R i j)=dp B cs k:=by
  refine V7 fun c r g b=>?_
  unfold rc
  rw [iN o]
  show B (if r<k then r else i) (cs c)=_
  rw [iP b]
 rw [l]
 unfold rc
 rw [iP rfl]
 show _=0+(if k<k then 0 else R i j)*_
 rw [iN (bX k)]
 grind
def Elim.above(E:Elim n w B R cs k){i j:Nat}(hi:i<k)(hj:j<w):dp B cs k*R i j=dt k (rc (fun c r=>B r (cs c)) i fun r=>B r j):=by
 let X:Nat->Nat->Rat:=fun c r=>B r (cs c)
 have d:dt k (rc X i fun r=>B r j)=dt k (rc X i fun r=>sm k fun t=>R t j*X t r):=by
  refine V7 fun c r f b=>?_
  unfold rc
  split
  ·show B r j=sm k fun t=>R t j*X t r
   rw [E.top r j b hj]
   exact C4 fun m _=>aR _ _
  ·rfl
 show _=dt k (rc X i fun r=>B r j)
 rw [d,B3d X hi (fun t=>R t j) X,U9 (k:=i) hi fun t e a=>?_]
 ·rw [A1z,aR];rfl
 ·rcases Nat.lt_or_ge t i with h|h
  ·rw [B5b (rc X i (X t)) (p:=t) (q:=i) h hi fun r _=>by unfold rc;rw [iN o,iP rfl]]
   exact aZ _
  ·rw [B5b (rc X i (X t)) (p:=i) (q:=t) o e fun r _=>by unfold rc;rw [iP rfl,iN o]]
   exact aZ _
def Elim.whole(E:Elim n w B R cs k)(hB:∀ i j,i<n->j<w->Wh (B i j)){i j:Nat}(hi:i<n)(hj:j<w):Wh (dp B cs k*R i j):=by
 by_cases h:i<k
 ·rw [E.above h hj]
  refine B8l fun c r a b=>?_
  have:=E.kn
  unfold rc
  split
  ·exact hB r j o hj
  ·exact hB r _ o (E.cw c a)
 ·rw [E.below hi o hj]
  refine B8l fun c r a b=>?_
  refine hB _ _ ?_ ?_
  ·split<;>omega
  ·split
   ·exact E.cw c (by assumption)
   ·exact hj
def Elim.next(E:Elim n w B R cs k){j:Nat}(hk:k<n)(hj:j<w)(hc:cs k=j):dp B cs (k+1)=dp B cs k*R k j:=by
 rw [E.below hk (aF _) hj]
 refine V7 fun c r b e=>?_
 have d:(if r<k then r else k)=r:=by split<;>omega
 have a:(if c<k then cs c else j)=cs c:=by
  split
  ·rfl
  ·have:c=k:=o
   rw [this,hc]
 rw [d,a]
def Ao(R:Nat->Nat->Rat)(k j:Nat):Nat->Nat->Rat:=fun a b=>if a=k then R k b/R k j else R a b-R a j*(R k b/R k j)
def Elim.step(E:Elim n w B R cs k){j:Nat}(hk:k<n)(hj:j<w)(hc:cs k=j)(hne:R k j≠0):Elim n w B (Ao R k j) cs (k+1):=by
 have d:∀ m,m<k->R k (cs m)=0:=fun m p=>E.low k m hk (aF _) p
 have f:R k j/R k j=1:=gz0
 refine ⟨o,fun m p=>?_,fun l m C p=>?_,fun i m q u p=>?_,fun l b C r=>?_,fun i b q u r=>?_⟩
 ·by_cases e:m=k
  ·rw [e,hc];exact hj
  ·exact E.cw m o
 ·unfold Ao
  by_cases s:m=k
  ·subst s
   rw [hc]
   by_cases c:l=m
   ·rw [iP c,iP c];exact f
   ·rw [iN c,iN c,f];grind
  ·have a:m<k:=o
   rw [d m a]
   by_cases c:l=k
   ·subst c
    rw [iP rfl,iN o];grind
   ·rw [iN c,E.piv l m o a]
    grind
 ·unfold Ao
  rw [iN o]
  by_cases s:m=k
  ·subst s
   rw [hc,f];grind
  ·have a:m<k:=o
   rw [d m a,E.low i m q o a]
   grind
 ·rw [sm]
  have t:(Ao R k j) k b=R k b/R k j:=by unfold Ao;rw [iP rfl]
  have y:sm k (fun m=>B l (cs m)*Ao R k j m b)=sm k (fun m=>B l (cs m)*R m b)-sm k (fun m=>B l (cs m)*R m j)*(R k b/R k j):=by
   have:(fun m=>B l (cs m)*Ao R k j m b)=fun m=>if m=k then B l (cs k)*(R k b/R k j) else B l (cs m)*R m b+(-(R k b/R k j))*(B l (cs m)*R m j):=by
    funext m
    unfold Ao
    by_cases e:m=k
    ·rw [iP e,iP e,e]
    ·rw [iN e,iN e];grind
   rw [this,C4 (g:=fun m=>B l (cs m)*R m b+(-(R k b/R k j))*(B l (cs m)*R m j)) fun m p=>by rw [iN o]]
   rw [Bi,J9];grind
  rw [t,y,hc]
  by_cases c:l=k
  ·subst c
   have t1:=E.bot l b hk (aF _) r
   have z:=E.bot l j hk (aF _) hj
   grind
  ·have t1:=E.top l b o r
   have z:=E.top l j o hj
   grind
 ·rw [sm]
  have t:(Ao R k j) k b=R k b/R k j:=by unfold Ao;rw [iP rfl]
  have y:sm k (fun m=>B i (cs m)*Ao R k j m b)=sm k (fun m=>B i (cs m)*R m b)-sm k (fun m=>B i (cs m)*R m j)*(R k b/R k j):=by
   have:(fun m=>B i (cs m)*Ao R k j m b)=fun m=>if m=k then B i (cs k)*(R k b/R k j) else B i (cs m)*R m b+(-(R k b/R k j))*(B i (cs m)*R m j):=by
    funext m
    unfold Ao
    by_cases e:m=k
    ·rw [iP e,iP e,e]
    ·rw [iN e,iN e];grind
   rw [this,C4 (g:=fun m=>B i (cs m)*R m b+(-(R k b/R k j))*(B i (cs m)*R m j)) fun m p=>by rw [iN o]]
   rw [Bi,J9];grind
  have A:Ao R k j i b=R i b-R i j*(R k b/R k j):=by unfold Ao;rw [iN o]
  have t1:=E.bot i b q o r
  have z:=E.bot i j q o hj
  rw [t,y,A,hc]
  grind
def xch(k l:Nat)(i:Nat):Nat:=if i=k then l else if i=l then k else i
def Elim.swap(E:Elim n w B R cs k){l:Nat}(hk:k<=l)(hl:l<n):Elim n w (fun i=>B (xch k l i)) (fun i=>R (xch k l i)) cs k:=by
 have f:∀ i,i<k->xch k l i=i:=fun i e=>by unfold xch;rw [iN o,iN o]
 have p:∀ i,i<n->k<=i->xch k l i<n/\k<=xch k l i:=fun i r q=>by unfold xch;split<;>(try split)<;>omega
 refine ⟨E.kn,E.cw,fun a m d b=>?_,fun i m e c b=>?_,fun a j d g=>?_,fun i j e c g=>?_⟩
 ·show R (xch k l a) _=_
  rw [f a d];exact E.piv a m d b
 ·have:=p i e c
  exact E.low _ m this.1 this.2 b
 ·show B (xch k l a) j=sm k fun m=>B (xch k l a) (cs m)*R (xch k l m) j
  rw [f a d,E.top a j d g]
  exact C4 fun m b=>by rw [f m b]
 ·have:=p i e c
  show B (xch k l i) j=R (xch k l i) j+sm k fun m=>B (xch k l i) (cs m)*R (xch k l m) j
  rw [E.bot _ j this.1 this.2 g]
  congr 1
  exact C4 fun m b=>by rw [f m b]
def B5c(B:Nat->Nat->Rat)(cs:Nat->Nat){k l:Nat}(hk:k<=l):dp (fun i=>B (xch k l i)) cs k=dp B cs k:=by
 refine V7 fun c r _ a=>?_
 show B (xch k l r) _=_
 unfold xch;rw [iN o,iN o]
def Elim.start:Elim n w B B cs 0:=by
 refine ⟨aQ _,fun m a=>o,fun l m b=>o,fun i m _ _ a=>o,fun l j b=>o,fun i j _ _ _=>by rw [sm,bC]⟩
def Elim.cs_congr{cs':Nat->Nat}(E:Elim n w B R cs k)(h:∀ m,m<k->cs m=cs' m):Elim n w B R cs' k:=by
 refine ⟨E.kn,fun m a=>by rw [<- h m a];exact E.cw m a,fun l m c a=>by rw [<- h m a];exact E.piv l m c a,fun i m e d a=>by rw [<- h m a];exact E.low i m e d a,fun l j c b=>?_,fun i j e d b=>?_⟩
 ·rw [E.top l j c b];exact C4 fun m a=>by rw [h m a]
 ·rw [E.bot i j e d b];congr 1;exact C4 fun m a=>by rw [h m a]
def B1r{cs':Nat->Nat}(h:∀ m,m<k->cs m=cs' m):dp B cs k=dp B cs' k:=V7 fun c r a _=>by rw [h c a]
end
end Go.Proofs.YtkfhdoblhajcbaaGreatDoor
namespace Go.Proofs.YtkfhdoblhajcbaaGreatDoor
set_option maxRecDepth 20000
def fnd(p:Nat->Bool):Nat->Nat->Nat
 | 0,i=>i
 | f+1,i=>bif p i then i else fnd p f (i+1)
def A48(p:Nat->Bool):∀ f i,i<=fnd p f i/\fnd p f i<=i+f:=by
 intro f
 induction f with
 | zero=>intro i;simp [fnd]
 | succ f ih=>
  intro i
  unfold fnd
  grind
def Ws(p:Nat->Bool):∀ f i,fnd p f i<i+f->p (fnd p f i)=true:=by
 intro f
 induction f with
 | zero=>intro i h;simp [fnd] at h
 | succ f ih=>
  intro i h
  unfold fnd at h ⊢
  grind
def Pv(p:Nat->Bool):∀ f i j,i<=j->j<fnd p f i->p j=false:=by
 intro f
 induction f with
 | zero=>intro i j b a;simp [fnd] at a;omega
 | succ f ih=>
  intro i j b a
  unfold fnd at a
  grind
def A06{p q:Nat->Bool}: ∀ f i,(∀ j,i<=j->j<i+f->p j=q j)->fnd p f i=fnd q f i:=by
 intro f
 induction f with
 | zero=>intros;rfl
 | succ f ih=>
  intro i h
  unfold fnd
  grind
def Uo(p:Nat->Bool){f i k:Nat}(h1:i<=k)(h2:k<=i+f)(h3:∀ j,i<=j->j<k->p j=false)(h4:k<i+f->p k=true):fnd p f i=k:=by
 have a:=A48 p f i
 rcases Nat.lt_trichotomy (fnd p f i) k with h|h|h
 ·have:=Ws p f i o;grind
 ·exact h
 ·have:=Pv p f i k h1 h;grind
structure ES where
 R:Nat->Nat->Rat
 cs:List Nat
 det:Rat
def elimE(R:Nat->Nat->Rat)(k j:Nat):Nat->Nat->Rat:=fun a b=>if a=k then R k b/R k j else if R a j=0\/b<j then R a b else R a b-R a j*(R k b/R k j)
def Iu(n c:Nat)(s:ES):Nat:=fnd (fun i=>decide (s.R i c≠0)) (n-s.cs.length) s.cs.length
def Cp(n c:Nat)(s:ES):ES:=
 if s.cs.length<n then
  if Iu n c s<n then
   { R:=elimE (fun i=>s.R (xch s.cs.length (Iu n c s) i)) s.cs.length c
     cs:=s.cs++[c]
     det:=(if Iu n c s=s.cs.length then s.det else-s.det)*s.R (Iu n c s) c }
  else { s with det:=0 }
 else s
def Ps(n:Nat)(s:ES):Nat->ES
 | 0=>s
 | c+1=>Cp n c (Ps n s c)
structure PS where
 M:Nat->Nat->Int
 S:Nat->Rat
 cs:List Nat
 last:Int
 sgn:Int
def clr(M:Nat->Nat->Int)(r c:Nat)(d:Int):Nat->Nat->Int:=fun a b=>if a=r then M r b else (M r c*M a b-M a c*M r b).tdiv d
def Qp(n c:Nat)(s:PS):Nat:=fnd (fun i=>decide (s.M i c≠0)) (n-s.cs.length) s.cs.length
def Co(n c:Nat)(s:PS):PS:=
 if Qp n c s<n then
  { M:=clr (fun i=>s.M (xch s.cs.length (Qp n c s) i)) s.cs.length c s.last
    S:=fun i=>s.S (xch s.cs.length (Qp n c s) i)
    cs:=s.cs++[c]
    last:=s.M (Qp n c s) c
    sgn:=if Qp n c s=s.cs.length then s.sgn else-s.sgn }
 else s
def Fv(n:Nat)(s:PS):Nat->PS
 | 0=>s
 | c+1=>Co n c (Fv n s c)
def pr:Nat->(Nat->Rat)->Rat
 | 0,_=>1
 | n+1,f=>pr n f*f n
def B14{n:Nat}{f g:Nat->Rat}(h:∀ i,i<n->f i=g i):pr n f=pr n g:=by
 induction n with
 | zero=>rfl
 | succ n ih=>rw [pr,pr,ih (fun i a=>h i o),h n o]
def Jo(k l:Nat):xch k l k=l:=by unfold xch;grind
def Hz{k l i n:Nat}(hk:k<n)(hl:l<n)(hi:i<n):xch k l i<n:=by unfold xch;grind
def A6h{k l i:Nat}(hkl:k<=l)(hi:k<=i):k<=xch k l i:=by unfold xch;grind
def Xw{k l i:Nat}(hkl:k<=l)(hi:i<k):xch k l i=i:=by unfold xch;grind
def A1l{x d z:Int}(hd:d≠0)(h:x=d*z):x.tdiv d=z:=by
 simp_all
structure ERel (n w c:Nat) (A:Nat->Nat->Rat) (s:ES) (t:PS):Prop where
 cs:s.cs=t.cs
 elim:∃ B,(∀ i j,i<n->j<w->Wh (B i j))/\Elim n w B (fun i j=>if i<s.cs.length then s.R i j else t.S i*s.R i j) (fun m=>s.cs.getD m 0) s.cs.length/\(t.last:Rat)=dp B (fun m=>s.cs.getD m 0) s.cs.length
 last:t.last≠0
 val:∀ i j,i<n->j<w->(t.M i j:Rat)=t.last*(if i<s.cs.length then s.R i j else t.S i*s.R i j)
 scale:∀ i,i<n->t.S i≠0
 zero:∀ i j,i<n->s.cs.length<=i->j<c->s.R i j=0
 asc:s.cs.length<=c
 det:s.cs.length=c->s.det*pr s.cs.length t.S=t.sgn*t.last
 miss:s.cs.length<c->s.cs.length<n->s.det=0
 sgn:t.sgn=1\/t.sgn= -1
def O9{z:Int}(h:z≠0):(z:Rat)≠0:=by
 simp_all
def ERel.start{n w:Nat}{A:Nat->Nat->Rat}{M:Nat->Nat->Int}{S:Nat->Rat}(h:∀ i j,i<n->j<w->(M i j:Rat)=S i*A i j)(hS:∀ i,i<n->S i≠0):ERel n w 0 A ⟨A,[],1⟩ ⟨M,S,[],1,1⟩:=by
 refine ⟨rfl,⟨fun i j=>S i*A i j,fun i j b a=>⟨M i j,(h i j b a).symm⟩,?_,rfl⟩,(by decide:(1:Int)≠0),fun i j b a=>?_,hS,fun i j _ _ a=>o,aF _,fun _=>?_,fun h=>by simp at h,.inl rfl⟩
 ·show Elim n w _ (fun i j=>if i<([]:List Nat).length then A i j else S i*A i j) _ 0
  exact Elim.start
 ·grind
 rfl
def Lc(l:List Nat)(c:Nat):∀ m,m<l.length->(l++[c]).getD m 0=l.getD m 0:=by
 grind
def A03(l:List Nat)(c:Nat):(l++[c]).getD l.length 0=c:=by
 grind
def ERel.row{n w c:Nat}{A:Nat->Nat->Rat}{s:ES}{t:PS}(h:ERel n w c A s t)(hc:c<w):Qp n c t=Iu n c s:=by
 unfold Qp Iu
 rw [<- h.cs]
 refine A06 _ _ fun j f b=>?_
 have a:=h.val j c o hc
 have g:=O9 h.last
 have d:=h.scale j o
 refine decide_eq_decide.2 (not_congr ⟨fun e=>?_,fun e=>?_⟩)
 ·rw [e] at a
  grind
 simp_all
def ERel.step{n w c:Nat}{A:Nat->Nat->Rat}{s:ES}{t:PS}(h:ERel n w c A s t)(hc:c<w):ERel n w (c+1) A (Cp n c s) (Co n c t):=by
 have T:=h.row hc
 have a:=A48 (fun i=>decide (s.R i c≠0)) (n-s.cs.length) s.cs.length
 have H:=Pv (fun i=>decide (s.R i c≠0)) (n-s.cs.length) s.cs.length
 have O:=Ws (fun i=>decide (s.R i c≠0)) (n-s.cs.length) s.cs.length
 have hR:fnd (fun i=>decide (s.R i c≠0)) (n-s.cs.length) s.cs.length=Iu n c s:=rfl
 rw [hR] at a H O
 obtain ⟨B,hB,E,hD⟩:=h.elim
 unfold Cp Co
 rw [T]
 by_cases u:Iu n c s<n
 ·have f:s.cs.length<n:=o
  rw [iP f,iP u,iP u,<- h.cs]
  generalize hr:Iu n c s=r at *
  generalize hl:s.cs.length=k at *
  have E1:=E.swap (l:=r) a.1 u
  have F:∀ m,m<k->s.cs.getD m 0=(s.cs++[c]).getD m 0:=fun m hm=>(Lc s.cs c m o).symm
  have E2:=E1.cs_congr F
  have y:(s.cs++[c]).getD k 0=c:=gz0
  have p:(s.cs++[c]).length=k+1:=gz0
  have xk:xch k r k=r:=Jo k r
  have aj:=h.scale r u
  have ac:t.S r*s.R r c≠0:=by
   grind
  have E3:=E2.step (j:=c) f hc y gz0
  have ag:=E2.next (j:=c) f hc y
  have ai:dp (fun i=>B (xch k r i)) (fun m=>(s.cs++[c]).getD m 0) k=(t.last:Rat):=by
   rw [hD,<- B1r F,B5c B _ a.1]
  have G:(t.M r c:Rat)=t.last*(t.S r*s.R r c):=by
   have:=h.val r c u hc
   grind
  have Q:dp (fun i=>B (xch k r i)) (fun m=>(s.cs++[c]).getD m 0) (k+1)=(t.M r c:Rat):=by
   grind
  have ad:=O9 h.last
  have N:t.M r c≠0:=by
   intro e
   rw [e] at G
   grind
  have hz:∀ b,b<c->s.R r b=0:=fun b hb=>h.zero r b u o hb
  have hQ:∀ i j,(if i<k+1 then elimE (fun i=>s.R (xch k r i)) k c i j else t.S (xch k r i)*elimE (fun i=>s.R (xch k r i)) k c i j)=Ao (fun i j=>if xch k r i<k then s.R (xch k r i) j else t.S (xch k r i)*s.R (xch k r i) j) k c i j:=by
   intro i j
   unfold elimE Ao
   by_cases e:i=k
   ·grind
   ·simp only [iN e,xk,iN (show ¬ r<k from o)]
    by_cases d:i<k
    ·rw [iP (show i<k+1 from o),Xw a.1 d,iP d,iP d]
     grind
    ·have W:¬ xch k r i<k:=by have:=A6h (i:=i) a.1 o;omega
     grind
  have aa:(fun i j=>if i<k+1 then elimE (fun i=>s.R (xch k r i)) k c i j else t.S (xch k r i)*elimE (fun i=>s.R (xch k r i)) k c i j)=Ao (fun i j=>if xch k r i<k then s.R (xch k r i) j else t.S (xch k r i)*s.R (xch k r i) j) k c:=by
   grind
  have q:∀ i,i<n->xch k r i<n:=fun i d=>Hz f u d
  refine ⟨rfl,⟨fun i=>B (xch k r i),fun i j d D=>hB _ j (q i d) D,?_,?_⟩,N,fun i j d D=>?_,fun i d=>h.scale _ (q i d),fun i j d L D=>?_,?_,fun X=>?_,fun X _=>?_,?_⟩
  ·show Elim n w _ (fun i j=>if i<(s.cs++[c]).length then elimE (fun i=>s.R (xch k r i)) k c i j else t.S (xch k r i)*elimE (fun i=>s.R (xch k r i)) k c i j) _ (s.cs++[c]).length
   rw [p,aa]
   exact E3
  ·grind
  ·show (clr (fun i=>t.M (xch k r i)) k c t.last i j:Rat)=(t.M r c:Rat)*(if i<(s.cs++[c]).length then elimE (fun i=>s.R (xch k r i)) k c i j else t.S (xch k r i)*elimE (fun i=>s.R (xch k r i)) k c i j)
   rw [p,hQ i j]
   unfold clr
   by_cases e:i=k
   ·subst e
    rw [iP rfl]
    show (t.M (xch i r i) j:Rat)=_
    unfold Ao
    have:=h.val r j u D
    grind
   ·rw [iN e]
    show (((t.M (xch k r k) c*t.M (xch k r i) j-t.M (xch k r i) c*t.M (xch k r k) j).tdiv t.last:Int):Rat)=_
    rw [xk]
    have hw:=E3.whole (fun i j d D=>hB _ j (q i d) D) d D
    rw [Q] at hw
    obtain ⟨z,V⟩:=hw
    have v1:=h.val (xch k r i) j (q i d) D
    have v2:=h.val (xch k r i) c (q i d) hc
    have v3:=h.val r j u D
    have W:t.M r c*t.M (xch k r i) j-t.M (xch k r i) c*t.M r j=t.last*z:=by
     have:((t.M r c*t.M (xch k r i) j-t.M (xch k r i) c*t.M r j:Int):Rat)=((t.last*z:Int):Rat):=by
      rw [Rat.intCast_sub,aN,aN,aN,<- V,v1,v2,v3,G]
      unfold Ao
      grind
     exact_mod_cast this
    rw [A1l h.last W,<- V]
  ·show elimE (fun i=>s.R (xch k r i)) k c i j=0
   have ae:k+1<=i:=by
    grind
   have af:=A6h (i:=i) a.1 (show k<=i from o)
   unfold elimE
   rw [iN o]
   by_cases e:j=c
   ·grind
   ·rw [iP (.inr o)]
    exact h.zero _ j (q i d) o o
  ·show (s.cs++[c]).length<=c+1
   have:=h.asc
   omega
  ·show (if r=k then s.det else -s.det)*s.R r c*pr (s.cs++[c]).length (fun i=>t.S (xch k r i))=((if r=k then t.sgn else -t.sgn:Int):Rat)*(t.M r c:Rat)
   have ah:k=c:=by
    grind
   have hd:=h.det o
   rw [p,pr,xk,B14 (g:=t.S) fun i d=>by rw [Xw a.1 d],G]
   by_cases e:r=k
   ·grind
   ·rw [iN e,iN e,Rat.intCast_neg];grind
  ·show (if r=k then s.det else -s.det)*s.R r c=0
   have:(s.cs++[c]).length<c+1:=X
   have hd:=h.miss o o
   grind
  ·show (if r=k then t.sgn else -t.sgn)=1\/(if r=k then t.sgn else -t.sgn)= -1
   have:=h.sgn
   omega
 ·rw [iN u,iN u]
  have C:∀ i j,i<n->s.cs.length<=i->j<c+1->s.R i j=0:=by
   intro i j d L D
   by_cases e:j=c
   ·grind
   ·exact h.zero i j d L o
  by_cases f:s.cs.length<n
  ·rw [iP f]
   exact ⟨h.cs,⟨B,hB,E,hD⟩,h.last,h.val,h.scale,C,Nat.le_succ_of_le h.asc,fun X=>by have:=h.asc;grind,fun _ _=>rfl,h.sgn⟩
  ·rw [iN f]
   exact ⟨h.cs,⟨B,hB,E,hD⟩,h.last,h.val,h.scale,C,Nat.le_succ_of_le h.asc,fun X=>by have:=h.asc;omega,fun _ W=>absurd W f,h.sgn⟩
def ERel.run{n w:Nat}{A:Nat->Nat->Rat}{s:ES}{t:PS}(h:ERel n w 0 A s t):∀ c,c<=w->ERel n w c A (Ps n s c) (Fv n t c):=by
 intro c
 induction c with
 | zero=>exact fun _=>h
 | succ c ih=>exact fun a=>(ih o).step o
end Go.Proofs.YtkfhdoblhajcbaaGreatDoor
namespace Go.Proofs.YtkfhdoblhajcbaaGreatDoor
set_option maxRecDepth 20000
def Sz.elimE{n w k j m:Nat}{R:Nat->Nat->Rat}(hR:∀ a b,a<n->b<w->Sz m (R a b))(hk:k<n)(hj:j<w)(hm:1<=m){a b:Nat}(ha:a<n)(hb:b<w):Sz (7*m) (elimE R k j a b):=by
 have c:Sz (m+m) (R k b/R k j):=(hR k b hk hb).div (hR k j hk hj) hm
 unfold Go.Proofs.YtkfhdoblhajcbaaGreatDoor.elimE
 split
 ·exact c.mono o
 ·split
  ·exact (hR a b ha hb).mono o
  ·exact ((hR a b ha hb).sub ((hR a j ha hj).mul c)).mono o
structure SzE (n w m:Nat) (s:ES):Prop where
 R:∀ a b,a<n->b<w->Sz (7^s.cs.length*m) (s.R a b)
 det:Sz (7^s.cs.length*m) s.det
 len:s.cs.length<=n
def Vx(k m:Nat)(hm:1<=m):1<=7^k*m:=by
 have:0<7^k:=cN dc
 exact Nat.mul_pos this hm
def SzE.step{n w m c:Nat}{s:ES}(h:SzE n w m s)(hm:1<=m)(hc:c<w):SzE n w m (Cp n c s):=by
 have j:=Vx s.cs.length m hm
 unfold Cp
 by_cases f:s.cs.length<n
 ·rw [iP f]
  by_cases d:Iu n c s<n
  ·rw [iP d]
   have e:(s.cs++[c]).length=s.cs.length+1:=by simp
   have k:7^(s.cs.length+1)*m=7*(7^s.cs.length*m):=gz0
   refine ⟨fun a b g i=>?_,?_,?_⟩
   ·show Sz (7^(s.cs++[c]).length*m) _
    rw [e,k]
    exact Sz.elimE (n:=n) (w:=w) (fun a b g i=>h.R _ b (Hz f d g) i) f hc j g i
   ·show Sz (7^(s.cs++[c]).length*m) ((if Iu n c s=s.cs.length then s.det else -s.det)*s.R (Iu n c s) c)
    rw [e,k]
    have:Sz (7^s.cs.length*m) (if Iu n c s=s.cs.length then s.det else -s.det):=by
     split
     ·exact h.det
     ·exact h.det.neg
    exact (this.mul (h.R _ c d hc)).mono o
   grind
  ·rw [iN d]
   exact ⟨h.R,Sz.zero j,h.len⟩
 grind
def SzE.run{n w m:Nat}{s:ES}(h:SzE n w m s)(hm:1<=m):∀ c,c<=w->SzE n w m (Ps n s c):=by
 intro c
 induction c with
 | zero=>exact fun _=>h
 | succ c ih=>exact fun a=>(ih o).step hm o
def B28{m:Nat}{x d:Int}(h:ZB m x):ZB m (x.tdiv d):=by
 refine h.le ?_
 rw [Int.natAbs_tdiv]
 exact cU _ _
def ZB.clr{n w k j m:Nat}{M:Nat->Nat->Int}{d:Int}(hM:∀ a b,a<n->b<w->ZB m (M a b))(hk:k<n)(hj:j<w){a b:Nat}(ha:a<n)(hb:b<w):ZB (2*m+1) (clr M k j d a b):=by
 unfold Go.Proofs.YtkfhdoblhajcbaaGreatDoor.clr
 split
 ·exact (hM k b hk hb).mono o
 ·refine B28 ?_
  have c:=(hM k j hk hj).mul (hM a b ha hb)
  have e:=(hM a j ha hj).mul (hM k b hk hb)
  exact (c.sub e).mono o
def A1u(n c:Nat)(s:PS)(h:s.cs.length<=n):s.cs.length<=Qp n c s/\Qp n c s<=n:=by
 have:=A48 (fun i=>decide (s.M i c≠0)) (n-s.cs.length) s.cs.length
 unfold Qp
 omega
structure ZbP (n w m l:Nat) (s:PS):Prop where
 M:∀ a b,a<n->b<w->ZB (3^s.cs.length*m) (s.M a b)
 last:ZB (3^s.cs.length*m) s.last
 S:∀ a,a<n->Sz l (s.S a)
 len:s.cs.length<=n
def A3t(k m:Nat)(hm:1<=m):1<=3^k*m:=by
 have:0<3^k:=cN dc
 exact Nat.mul_pos this hm
def ZbP.step{n w m l c:Nat}{s:PS}(h:ZbP n w m l s)(hm:1<=m)(hc:c<w):ZbP n w m l (Co n c s):=by
 have k:=A1u n c s h.len
 have p:=A3t s.cs.length m hm
 unfold Co
 by_cases f:Qp n c s<n
 ·rw [iP f]
  have g:s.cs.length<n:=o
  have e:(s.cs++[c]).length=s.cs.length+1:=by simp
  have j:3^(s.cs.length+1)*m=3*(3^s.cs.length*m):=gz0
  refine ⟨fun a b d i=>?_,?_,fun a d=>h.S _ (Hz g f d),?_⟩
  ·show ZB (3^(s.cs++[c]).length*m) _
   rw [e,j]
   exact (ZB.clr (n:=n) (w:=w) (fun a b d i=>h.M _ b (Hz g f d) i) g hc d i).mono o
  ·show ZB (3^(s.cs++[c]).length*m) (s.M (Qp n c s) c)
   rw [e,j]
   exact (h.M _ c f hc).mono o
  grind
 grind
def ZbP.run{n w m l:Nat}{s:PS}(h:ZbP n w m l s)(hm:1<=m):∀ c,c<=w->ZbP n w m l (Fv n s c):=by
 intro c
 induction c with
 | zero=>exact fun _=>h
 | succ c ih=>exact fun a=>(ih o).step hm o
structure Asc (l:List Nat) (c:Nat):Prop where
 lt:∀ x∈l,x<c
 asc:l.Pairwise (· < ·)
def Asc.snoc{l:List Nat}{c:Nat}(h:Asc l c):Asc (l++[c]) (c+1):=by
 refine ⟨fun x d=>?_,?_⟩
 ·rcases List.mem_append.1 d with d|d
  ·have:=h.lt x d;omega
  grind
 ·rw [List.pairwise_append]
  refine ⟨h.asc,by simp,fun a f b e=>?_⟩
  simp at e;subst e;exact h.lt a f
def Asc.mono{l:List Nat}{c d:Nat}(h:Asc l c)(hcd:c<=d):Asc l d:=⟨fun x a=>Nat.lt_of_lt_of_le (h.lt x a) hcd,h.asc⟩
def Ek(n:Nat)(s:ES)(h:s.cs=[]):∀ c,Asc (Ps n s c).cs c:=by
 intro c
 induction c with
 | zero=>show Asc s.cs 0;rw [h];exact ⟨by simp,.nil⟩
 | succ c ih=>
  show Asc (Cp n c (Ps n s c)).cs (c+1)
  unfold Cp
  split
  ·split
   ·exact ih.snoc
   ·exact ih.mono o
  ·exact ih.mono o
def Y2(z:Int)(l:List aP):iAt (I z::l) 0=z:=rfl
def A4v:prog.cellsOf 37=4/\(prog.info? 37).isSome=true:=Yl
def A6u:prog.cellsOf 244=4/\(prog.info? 244).isSome=true:=Eg
section
variable {α β:Type} [E:Enc α] {R:aE->α->β->Prop}
def OwnK(R:aE->α->β->Prop)(h h':aE)(b n k:Nat)(f:Nat->β):Prop:=∃ g o xs,h.le g/\Sep h' g o/\RowX o b xs/\xs.length=n/\Row R g xs k f
def OwnK.own{h h':aE}{b n:Nat}{f:Nat->β}(w:OwnK R h h' b n n f):Own R h h' b n f:=⟨w⟩
def OwnK.le{h h':aE}{b n k:Nat}{f:Nat->β}(w:OwnK R h h' b n k f):h.le h':=by
 obtain ⟨g,o,a,l,s,_⟩:=w
 exact B0 l s.le
def OwnK.zero{h:aE}{b n:Nat}{f:Nat->β}{e:aK}{z:α}(hb:h b=none):OwnK R h (B3f e h b (aI n z)) b n 0 f:=
 ⟨h,Fe.put b (.cells ((aI n z).flatMap enc).toArray e),aI n z,B6 _,Bc hb,RowX.mk,by simp,Row.nil⟩
def OwnK.store(m:Mon R){P:cI}{t:aK}(one:P.cellsOf t=E.default.size/\(P.info? t).isSome=true){h h' g g' o:aE}{b n k:Nat}{f:Nat->β}{xs:List α}(lg:h.le g)(lg':g.le g')(s:Sep h' g' o)(rb:RowX o b xs)(hn:xs.length=n)(r:Row R g xs k f)(hk:k<n){v:aP}{y:α}(hv:v.cells=(enc y).toArray)(hy:R g' y (f k)){K:Unit->aE->Prop}
 (x:∀ h2,OwnK R h h2 b n (k+1) f->K () h2):wpH P (aO t (.pointer (some (aC ⟨b,0,none⟩ (k*E.default.size)))) v) K h':=by
 refine S5 one hv s rb oo ?_
 intro h2 d i e c a
 exact x h2 ⟨g',d,_,B0 lg lg',c,a,gz0,(r.mono m lg').set oo hy⟩
end
def S8:QV:=⟨false,none,0,0,false,none,0,0⟩
section
variable {h:aE} {K:VP} {A:Option aG} {n c m:Nat} {ls:Nat->List UInt8} {f:Nat->Rat} {a w:QV} {q:Rat}
def Cb(gl:Gl h)(r:RowV SSr h A n ls)(hn:n<=1000000)(hl:LL n ls)
 (hK1:(∀ i,i<n->dE (ls i))->∀ b h',Own RQr h h' b n (fun i=>rv (ls i))->K (.tuple #[.slice (some ⟨b,0,none⟩) n n,.bool true]) h')
 (hK0:¬ (∀ i,i<n->dE (ls i))->∀ h',h.le h'->K (.tuple #[.slice none 0 0,.bool false]) h'):aJ prog 153 #[.slice A n c] h K:=by
 refine (fnk func153 [(3,[14],[],[I 0])] (own:=[7])) ?_
 refine J2 Xq (zx:=S8) rfl oo oo oo oo ?_
 intro b N
 refine ⟨_,_,_,rfl,fun L u=>∃ k:Nat,k<=n/\L=[I k]/\(∀ i,i<k->dE (ls i))/\OwnK RQr h u b n k (fun i=>rv (ls i)),fun L _=>n-(iAt L 0).toNat,⟨0,oo,rfl,fun i S=>oo,OwnK.zero N⟩,?_⟩
 rintro t u ⟨k,V,W,l,g,o,Q,f,s,E,F,D⟩
 obtain rfl:t=(k:Int):=gz0
 refine C0 (fun M=>?_) (fun G=>?_)
 ·have d:k<n:=oo
  obtain ⟨a,rfl,T⟩:=(r.mono E8 (B0 f s.le)).sat d
  refine ⟨a,rfl,oo,oo,_,T,?_⟩
  refine s.call (Nj (gl.mono f).tz (hl k d) ?_ ?_)
  ·intro q e w C z H B p
   refine ⟨_,_,_,_,_,_,_,_,_,rfl,_,rfl,oo,oo,?_⟩
   refine OwnK.store G1 A6u (y:=w) f z p E F D d rfl (by show RQ C w (rv (ls k));rw [e,F9];exact H) ?_
   intro X R
   rw [wiS k oo]
   refine ⟨⟨k+1,oo,rfl,fun i S=>?_,R⟩,?_⟩
   ·by_cases O:i=k
    ·subst O;exact ⟨q,e⟩
    grind
   ·simp only [Y2];omega
  ·intro m w C z _ B p
   exact ⟨_,_,_,_,_,_,_,_,_,rfl,hK0 (fun j=>m (j k d)) B (B0 f (B0 z p.le))⟩
 ·have:k=n:=oo
  subst this
  exact hK1 l b u ⟨g,o,Q,f,s,E,F,D⟩
def U2(gl:Gl h)(r:RowV RQr h A n f)(hn:n<=1000000)(hs:∀ i,i<n->Sz m (f i))(hm:m<=40000000)
 (hK:∀ b h',Own SSr h h' b n (fun i=>E7 (f i))->K (.slice (some ⟨b,0,none⟩) n n) h'):aJ prog 155 #[.slice A n c] h K:=by
 refine (fnk func155 [(3,[11],[],[I 0])] (own:=[5])) ?_
 refine J2 H1 (zx:=([]:List UInt8)) rfl oo oo oo oo ?_
 intro b E
 refine ⟨_,_,_,rfl,fun L j=>∃ k:Nat,k<=n/\L=[I k]/\OwnK SSr h j b n k (fun i=>E7 (f i)),fun L _=>n-(iAt L 0).toNat,⟨0,oo,rfl,OwnK.zero E⟩,?_⟩
 rintro t j ⟨k,Q,R,g,o,M,e,s,p,q,l⟩
 obtain rfl:t=(k:Int):=gz0
 refine C0 (fun D=>?_) (fun u=>?_)
 ·have d:k<n:=oo
  obtain ⟨a,w,rfl,B,H,G,z,C⟩:=(r.mono G1 e).qat d
  refine ⟨_,rfl,oo,oo,_,_,_,_,_,_,_,_,C1 s.le H,C1 s.le G,C1 s.le z,C1 s.le C,?_⟩
  refine s.call (By (gl.mono e).p10 B (hs k d) hm ?_)
  intro O F
  refine ⟨_,rfl,_,rfl,oo,oo,?_⟩
  refine OwnK.store E8 J6 (y:=E7 (f k)) e (B6 _) F p q l d rfl rfl ?_
  intro S N
  rw [wiS k oo]
  exact ⟨⟨k+1,oo,rfl,N⟩,by simp only [Y2];omega⟩
 ·have:k=n:=oo
  subst this
  exact hK b j ⟨g,o,M,e,s,p,q,l⟩
def Zj(r:RowV SSr h A n ls)(hn:n<=1000000)(hl:LL n ls)
 (hK1:(∀ i,i<n->dE (ls i))->∀ b h',Own NQr h h' b n (fun i=>rv (ls i))->K (.tuple #[.slice (some ⟨b,0,none⟩) n n,.bool true]) h')
 (hK0:¬ (∀ i,i<n->dE (ls i))->∀ h',h.le h'->K (.tuple #[.slice none 0 0,.bool false]) h'):aJ prog 17 #[.slice A n c] h K:=by
 refine (fnk func17 [(3,[5],[],[I 0])] (own:=[6])) ?_
 refine J2 Eh (zx:=S8) rfl oo oo oo oo ?_
 intro b N
 refine ⟨_,_,_,rfl,fun L u=>∃ k:Nat,k<=n/\L=[I k]/\(∀ i,i<k->dE (ls i))/\OwnK NQr h u b n k (fun i=>rv (ls i)),fun L _=>n-(iAt L 0).toNat,⟨0,oo,rfl,fun i S=>oo,OwnK.zero N⟩,?_⟩
 rintro t u ⟨k,V,W,j,g,o,Q,l,s,E,F,D⟩
 obtain rfl:t=(k:Int):=gz0
 refine C0 (fun M=>?_) (fun G=>?_)
 ·have d:k<n:=oo
  obtain ⟨a,rfl,T⟩:=(r.mono E8 (B0 l s.le)).sat d
  refine ⟨a,rfl,oo,oo,_,T,?_⟩
  refine s.call (A7c (hl k d) ?_ ?_)
  ·intro q e w C z H B p
   refine ⟨_,_,_,_,_,_,_,_,_,rfl,_,rfl,oo,oo,?_⟩
   refine OwnK.store F3 A4v (y:=w) l z p E F D d rfl (by show NQ C w (rv (ls k));rw [e,F9];exact H) ?_
   intro X R
   rw [wiS k oo]
   refine ⟨⟨k+1,oo,rfl,fun i S=>?_,R⟩,?_⟩
   ·by_cases O:i=k
    ·subst O;exact ⟨q,e⟩
    grind
   ·simp only [Y2];omega
  ·intro m w C z B p
   exact ⟨_,_,_,_,_,_,_,_,_,rfl,hK0 (fun f=>m (f k d)) B (B0 l (B0 z p.le))⟩
 ·have:k=n:=oo
  subst this
  exact hK1 j b u ⟨g,o,Q,l,s,E,F,D⟩
def Nf(r:RowV NQr h A n f)(hn:n<=1000000)(hs:∀ i,i<n->Sz m (f i))(hm:m<=1000000000)
 (hK:∀ b h',Own SSr h h' b n (fun i=>E7 (f i))->K (.slice (some ⟨b,0,none⟩) n n) h'):aJ prog 11 #[.slice A n c] h K:=by
 refine (fnk func11 [(3,[4],[],[I 0])]) ?_
 refine J2 H1 (zx:=([]:List UInt8)) rfl oo oo oo oo ?_
 intro b E
 refine ⟨_,_,_,rfl,fun L j=>∃ k:Nat,k<=n/\L=[I k]/\OwnK SSr h j b n k (fun i=>E7 (f i)),fun L _=>n-(iAt L 0).toNat,⟨0,oo,rfl,OwnK.zero E⟩,?_⟩
 rintro t j ⟨k,Q,R,g,o,M,e,s,p,q,l⟩
 obtain rfl:t=(k:Int):=gz0
 refine C0 (fun D=>?_) (fun u=>?_)
 ·have d:k<n:=oo
  obtain ⟨a,w,rfl,B,H,G,z,C⟩:=(r.mono F3 e).qat d
  refine ⟨_,rfl,oo,oo,_,_,_,_,_,_,_,_,C1 s.le H,C1 s.le G,C1 s.le z,C1 s.le C,?_⟩
  refine s.call (Yi B (hs k d) hm ?_)
  intro O F
  refine ⟨_,rfl,_,rfl,oo,oo,?_⟩
  refine OwnK.store E8 J6 (y:=E7 (f k)) e (B6 _) F p q l d rfl rfl ?_
  intro S N
  rw [wiS k oo]
  exact ⟨⟨k+1,oo,rfl,N⟩,by simp only [Y2];omega⟩
 ·have:k=n:=oo
  subst this
  exact hK b j ⟨g,o,M,e,s,p,q,l⟩
def Bu(f:Nat->Rat):Nat->Nat
 | 0=>1
 | n+1=>cW (Bu f n) (f n).den
def Wl(f:Nat->Rat):∀ n,0<Bu f n:=by
 intro n
 induction n with
 | zero=>exact Nat.one_pos
 | succ n ih=>exact Nat.lcm_pos ih (f n).den_pos
def Wm(f:Nat->Rat):∀ n i,i<n->(f i).den∣Bu f n:=by
 intro n
 induction n with
 | zero=>omega
 | succ n ih=>
  intro i a
  by_cases e:i=n
  ·subst e;exact Nat.dvd_lcm_right _ _
  ·exact Nat.dvd_trans (ih i o) (Nat.dvd_lcm_left _ _)
def ZB.lcm{k j:Nat}{x y:Nat}(hx:ZB k (x:Int))(hy:ZB j (y:Int)):ZB (k+j) ((cW x y:Nat):Int):=by
 have:=hx.mul hy
 refine Nat.lt_of_le_of_lt ?_ this
 exact cU _ _
def Jc{f:Nat->Rat}{m:Nat}: ∀ n,(∀ i,i<n->Sz m (f i))->ZB (1+n*m) (Bu f n:Int):=by
 intro n
 induction n with
 | zero=>intro _;exact ZB.one o
 | succ n ih=>
  intro h
  have:=(ih fun i a=>h i o).lcm (h n o).den
  exact this.mono gz0
def Cx(gl:Gl h)(r:RowV RQr h A n f)(hn:n<=1000000)(hs:∀ i,i<n->Sz m (f i))(hm:1+n*m+m<=6400000000)
 (hK:∀ s A' n' c' h',h.le h'->ZI h' s A' n' c' (Bu f n:Int)->K (.agg #[.bool s,.slice A' n' c']) h'):aJ prog 199 #[.slice A n c] h K:=by
 refine (fnk func199 [(3,[9],[(3,2)],[I 0,.bool false,.slice none 0 0])] (own:=[2,3,5])) ?_
 refine Dd o o ?_
 intro s1 A1 n1 c1 C l1 i1
 refine ⟨_,_,_,_,rfl,fun L y=>∃ (k:Nat) (s:Bool) (B:Option aG) (p q:Nat),k<=n/\L=[I k,.bool s,.slice B p q]/\h.le y/\ZI y s B p q (Bu f k:Int),fun L _=>n-(iAt L 0).toNat,⟨0,_,_,_,_,o,rfl,l1,i1⟩,?_⟩
 rintro t s B p q y ⟨k,D,B',j,g,hk,W,l,i⟩
 obtain ⟨rfl,rfl,rfl,rfl,rfl⟩:=W
 have H:C3 ((k:Int)+1)=((k+1:Nat):Int):=by rw [B9]<;>omega
 refine C0 (fun R=>?_) (fun N=>?_)
 ·have u:k<n:=o
  obtain ⟨a,w,rfl,F,X,T,O,Q⟩:=(r.mono G1 l).qat u
  have d:1+k*m+m<=6400000000:=by
   have:k*m<=n*m:=aD _ o
   omega
  have S:=(Jc k fun i hi=>hs i o).mono (show 1+k*m<=1+k*m+m from o)
  have M:=(hs k u).den.mono (show m<=1+k*m+m from o)
  refine ⟨_,rfl,o,o,_,_,_,_,_,_,_,_,X,T,O,Q,?_⟩
  refine F5 F.den ⟨_,rfl,?_⟩
  have z:((if (f k).den=1 then 0 else ((f k).den:Int))=0)↔(f k).den=1:=by
   have:=(f k).den_pos
   omega
  have same:Bu f (k+1)=Bu f k->(∃ (k':Nat) (D:Bool) (B':Option aG) (j g:Nat),k'<=n/\[I (C3 ((k:Int)+1)),.bool s,.slice B p q]=[I k',.bool D,.slice B' j g]/\h.le y/\ZI y D B' j g (Bu f k':Int))/\n-(iAt [I (C3 ((k:Int)+1)),.bool s,.slice B p q] 0).toNat<n-(iAt [I (k:Int),.bool s,.slice B p q] 0).toNat:=by
   intro e
   rw [H]
   exact ⟨⟨k+1,_,_,_,_,o,rfl,l,gz0⟩,by simp only [Y2];omega⟩
  refine Br.not (C0 (fun C=>?_) (fun C=>?_))
  ·have E:=z.1 C
   exact same (by rw [Bu,E];grind)
  ·have E:(if (f k).den=1 then 0 else ((f k).den:Int))=((f k).den:Int):=iN fun e=>C (z.2 e)
   have b:=F.den
   rw [E] at b
   refine A1c b i M d ⟨_,rfl,?_⟩
   refine Br.not (C0 (fun G=>?_) (fun G=>?_))
   ·have V:(f k).den=Bu f k:=by exact_mod_cast G
    exact same (by rw [Bu,V];grind)
   ·refine A6f (gl.mono l).tz i b S M d ?_
    intro A' n' c' h' l' i'
    refine ⟨_,_,_,_,rfl,?_⟩
    rw [H]
    refine ⟨⟨k+1,_,_,_,_,o,rfl,B0 l l',?_⟩,by simp only [Y2];omega⟩
    assumption
 grind
def scl(q:Rat)(d:Int):Int:=q.num*d.tdiv q.den
def B4s(q:Rat):q*(q.den:Rat)=(q.num:Rat):=by
 have h:=Rat.num_divInt_den q
 rw [bH] at h
 have a:((q.den:Int):Rat)≠0:=O9 (den_ne q)
 have e:((q.den:Int):Rat)=(q.den:Rat):=rfl
 grind
def A75{q:Rat}{d:Int}(h:(q.den:Int)∣d):(scl q d:Rat)=q*d:=by
 obtain ⟨e,rfl⟩:=h
 unfold scl
 rw [Int.mul_tdiv_cancel_left _ (den_ne q),aN,aN]
 have a:q*(q.den:Rat)=(q.num:Rat):=B4s q
 have b:(((q.den:Nat):Int):Rat)=(q.den:Rat):=rfl
 grind
def A74{q:Rat}{d:Int}{k:Nat}(hq:Sz m q)(hd:ZB k d):ZB (m+k) (scl q d):=hq.num.mul hd.tdiv
def Ir{s:Bool}{B:Option aG}{bn bc:Nat}{d:Int}(i:RQ h w q)(j:ZI h s B bn bc d)(hq:Sz m q)(hd:ZB m d)(hm:m<=6400000000)
 (hK:∀ s A' n' c' h',h.le h'->ZI h' s A' n' c' (scl q d)->K (.agg #[.bool s,.slice A' n' c']) h'):aJ prog 200 #[w.v,.agg #[.bool s,.slice B bn bc]] h K:=by
 refine (fnk func200 (own:=[2,3,4])) ?_
 refine F5 i.den ⟨_,rfl,?_⟩
 have c:((if q.den=1 then 0 else (q.den:Int))=0)↔q.den=1:=by
  have:=q.den_pos
  omega
 refine C0 (fun f=>?_) (fun f=>?_)
 ·refine O6 i.num j hq.num hd hm ?_
  intro r A' n' c' h' n A
  refine ⟨_,_,_,_,rfl,hK _ _ _ _ _ n ?_⟩
  have:scl q d=q.num*d:=by unfold scl;simp_all
  grind
 ·have l:(if q.den=1 then 0 else (q.den:Int))=(q.den:Int):=iN fun e=>f (c.2 e)
  have a:=i.den
  rw [l] at a
  refine Q8 j a hd hq.den hm (den_ne q) ?_
  intro r A1 z c1 t b k
  refine ⟨_,_,_,_,rfl,b,?_⟩
  refine O6 (i.num.mono b) k hq.num hd.tdiv hm ?_
  intro u A2 C c2 y g p
  exact ⟨_,_,_,_,rfl,g,hK _ _ _ _ _ (B0 b g) p⟩
end
instance:Enc Int:=⟨⟨fun z=>[I z],1,fun _=>rfl,fun z v hv=>by rw [List.mem_singleton.1 hv];rfl⟩⟩
abbrev IIr:aE->Int->Int->Prop:=fun _ w z=>w=z
section
variable {α:Type} [E:Enc α]
def OwnSl(o:aE)(e:aK)(A:Option aG)(c:Nat)(xs:List α):Prop:=
 xs.length<=c/\((c=0/\A=none)\/∃ b arr,A=some ⟨b,0,none⟩/\o b=some (.cells (bI arr) e)/\arr.length=c*E.default.size/\arr.take (xs.length*E.default.size)=xs.flatMap enc)
def OwnSl.nil{o:aE}{e:aK}:OwnSl o e none 0 ([]:List α):=⟨aF _,.inl ⟨rfl,rfl⟩⟩
def OwnSl.keep{o o':aE}{e:aK}{A:Option aG}{c:Nat}{xs:List α}(w:OwnSl o e A c xs)(h:∀ b x,A=some ⟨b,0,none⟩->o b=some x->o' b=some x):OwnSl o' e A c xs:=by
 refine ⟨w.1,?_⟩
 rcases w.2 with g|⟨b,a,j,i,f,d⟩
 ·grind
 grind
def OwnSl.rowB{o:aE}{e:aK}{A:Option aG}{c:Nat}{xs:List α}(w:OwnSl o e A c xs)(hne:xs≠[]):∃ b,A=some ⟨b,0,none⟩/\RowB o b xs:=by
 rcases w.2 with j|⟨b,a,g,f,i,d⟩
 ·exfalso
  have:=w.1
  simp_all
 ·exact ⟨b,g,e,a.drop (xs.length*E.default.size),by rw [f,<- d,aV]⟩
def OwnSl.slF{o h:aE}{e:aK}{A:Option aG}{c:Nat}{xs:List α}(w:OwnSl o e A c xs)(hl:o.le h):SlF h A xs:=by
 by_cases a:xs=[]
 ·rw [a];exact SlF.nil
 ·obtain ⟨b,rfl,r⟩:=w.rowB a
  exact r.slF hl
def OwnSl.priv{h g o:aE}{e:aK}{A:Option aG}{c:Nat}{xs:List α}(s:Sep h g o)(w:OwnSl o e A c xs):∃ gb,PrivF h gb e A c xs/\∀ k x,h k=some x->A≠some ⟨k,0,none⟩->gb k=some x:=by
 rcases w.2 with ⟨l,j⟩|⟨b,a,n,m,i,f⟩
 ·subst l
  have p:xs=[]:=cR (by have:=w.1;omega)
  subst p
  exact ⟨h,PrivF.nil h e A,fun k x e _=>e⟩
 ·refine ⟨h.without b,⟨K4 xs,w.1,.inr ⟨b,a,n,N3 _ _,(J3 (s.own b _ m)).symm,i,f⟩⟩,fun k x e d=>?_⟩
  unfold Heap.without
  grind
def OwnSl.push{P:cI}{t e ty:aK}{z:aP}{bytes:Nat}(st:cH P t e z E.default.size bytes){h g o:aE}{A:Option aG}{c:Nat}{xs:List α}(s:Sep h g o)(w:OwnSl o e A c xs){v:aP}{y:α}(hv:v.cells=(enc y).toArray)(hsz:E.default.size<=1000)
 (hb:(2*(xs.length+1)+192)*bytes<=281474976710656) (hn:xs.length+1<=9223372036854775807) {K1:aE->Prop} {K:Option aG->Nat->Nat->aE->Prop}
 (x0:∀ h1,h.le h1->K1 h1)
 (x:∀ A' c' h' g' o',g.le g'->Sep h' g' o'->OwnSl o' e A' c' (xs++[y])->(∀ k u,o k=some u->A≠some ⟨k,0,none⟩->o' k=some u/\A'≠some ⟨k,0,none⟩)->K A' (xs.length+1) c' h'):
 wpH P (bM t 1 #[(0,v)]) (fun v' hp=>∃ (B:Option aG) (m d:Nat),v'= .slice B m d/\K1 hp/\wpH P (bF #[t,t] ty #[.slice A xs.length c,.slice B m d]) (fun v1 hp1=>∃ (A':Option aG) (n' c':Nat),v1= .slice A' n' c'/\K A' n' c' hp1) hp) h:=by
 obtain ⟨S,p,M⟩:=w.priv s
 refine Z6 st (vs:=[v]) (fun u hu=>by rw [List.mem_singleton.1 hu,hv];simp [E.default.len]) rfl gz0 rfl ?_
 intro b f
 have L:[v].flatMap (fun v=>v.cells.toList)=[y].flatMap enc:=by simp [hv]
 rw [L]
 refine ⟨_,_,_,rfl,x0 _ (Heap.le_put _ f),?_⟩
 have p':PrivF (h.put b (.cells ([y].flatMap enc).toArray e)) (S.put b (.cells ([y].flatMap enc).toArray e)) e A c xs:=Priv.put p f _
 refine Hs st p' (ys:=[y]) rfl (A2z e h b [y]) hb hn ?_
 intro A' c' h' g' V hp
 refine ⟨_,_,_,rfl,?_⟩
 rw [aT]
 have q:∀ k u,h k=some u->A≠some ⟨k,0,none⟩->g' k=some u:=by
  intro k u a Q
  have j:k≠b:=gz0
  exact V k u (by rw [B7 _ _ j];grind)
 have H:∀ k u,g k=some u->A≠some ⟨k,0,none⟩:=by
  intro k u a r
  rcases w.2 with ⟨_,h0⟩|⟨n,l,i,C,_⟩
  ·grind
  ·rw [r] at i
   simp only [aM,aU,and_true] at i
   subst i
   rw [s.dis k _ C] at a;cases a
 rcases hp.2.2 with ⟨R,_⟩|⟨n,l,i,C,D,ha,T⟩
 ·exfalso
  have:=hp.2.1
  grind
 ·subst i
  let o':aE:=fun k=>if k=n then some (.cells (bI l) e) else if A=some ⟨k,0,none⟩ then none else o k
  have O:o' n=some (.cells (bI l) e):=gz0
  have ok:∀ k,k≠n->A≠some ⟨k,0,none⟩->o' k=o k:=fun k h1 G=>by grind
  let g2:aE:=fun k=>match o' k with|some _=>none|none=>h' k
  have X:∀ k u,o' k=some u->g2 k=none:=fun k u a=>by grind
  have gn:∀ k,o' k=none->g2 k=h' k:=fun k a=>by grind
  have F:∀ k u,k≠n->g' k=some u->h' k=some u:=fun k u h1 a=>by rw [D,B7 _ _ h1];exact a
  have N:∀ k u,o k=some u->A≠some ⟨k,0,none⟩->k≠n:=by
   rintro k u a G rfl
   have:=q k u (s.own k u a) G
   grind
  refine x _ c' h' g2 o' (fun k u a=>?_) ⟨fun k u a=>?_,fun k a=>(gn k a).symm,X⟩ ⟨hp.2.1,.inr ⟨n,l,rfl,O,ha,T⟩⟩ (fun k u a G=>?_)
  ·have W:o k=none:=by
    cases ho:o k with
    | none=>rfl
    | some y=>rw [s.dis k y ho] at a;cases a
   have r:=H k u a
   have e3:=q k u (s.le k u a) r
   grind
  ·by_cases j:k=n
   ·subst j
    rw [O] at a;cases a
    rw [D,C2]
   ·by_cases r:A=some ⟨k,0,none⟩
    ·grind
    ·rw [ok k j r] at a
     exact F k u j (q k u (s.own k u a) r)
  grind
end
structure Tb where
 bt:Nat
 bE:Nat
 bS:Nat
 rows:Nat
 cols:Nat
 cE:Nat
 cS:Nat
structure Tab (h g o:aE) (T:Tb) (M:Nat->Nat->Int) (S:Nat->Rat):Prop where
 sep:Sep h g o
 n1:T.bt≠T.bE
 n2:T.bt≠T.bS
 n3:T.bE≠T.bS
 head:∃ e,o T.bt=some (.cells #[I T.cols,.slice (some ⟨T.bE,0,none⟩) (T.rows*T.cols) T.cE,.slice (some ⟨T.bS,0,none⟩) T.rows T.cS] e)
 elems:∃ ws:List IV,RowB o T.bE ws/\ws.length=T.rows*T.cols/\∀ i j,i<T.rows->j<T.cols->∃ w,ws[i*T.cols+j]? = some w/\ZIr g w (M i j)
 scales:∃ ss:List QV,RowB o T.bS ss/\ss.length=T.rows/\Row RQr g ss T.rows S
 cE:T.rows*T.cols<=T.cE
 cS:T.rows<=T.cS
 small:T.rows<=10000/\T.cols<=10000
 pos:0<T.cols
def C0r(M:Nat->Nat->Int)(i j:Nat)(z:Int):Nat->Nat->Int:=fun a b=>if a=i/\b=j then z else M a b
def Q4{rows cols i j:Nat}(hi:i<rows)(hj:j<cols):i*cols+j<rows*cols:=by
 have:(i+1)*cols<=rows*cols:=aD _ hi
 grind
def B50{cols i j i' j':Nat}(hj:j<cols)(hj':j'<cols)(h:i*cols+j=i'*cols+j'):i=i'/\j=j':=by
 have a:(i*cols+j)/cols=i:=by rw [cC,Nat.mul_add_div o,bD hj,cK]
 have b:(i'*cols+j')/cols=i':=by rw [cC,Nat.mul_add_div o,bD hj',cK]
 grind
section
variable {h g o:aE} {T:Tb} {M:Nat->Nat->Int} {S:Nat->Rat} {K:VP} {m:Nat}
def Tab.next(t:Tab h g o T M S){h' g':aE}(s:Sep h' g' o)(l:g.le g'):Tab h' g' o T M S:=by
 refine ⟨s,t.n1,t.n2,t.n3,t.head,?_,?_,t.cE,t.cS,t.small,t.pos⟩
 ·obtain ⟨f,r,b,a⟩:=t.elems
  refine ⟨f,r,b,fun i j k c=>?_⟩
  obtain ⟨w,e,m⟩:=a i j k c
  exact ⟨w,e,Cu _ _ _ _ l m⟩
 ·obtain ⟨d,r,b,a⟩:=t.scales
  exact ⟨d,r,b,a.mono G1 l⟩
def Tab.congr(t:Tab h g o T M S){M':Nat->Nat->Int}{S':Nat->Rat}(hM:∀ i j,i<T.rows->j<T.cols->M i j=M' i j)(hS:∀ i,i<T.rows->S i=S' i):Tab h g o T M' S':=by
 refine ⟨t.sep,t.n1,t.n2,t.n3,t.head,?_,?_,t.cE,t.cS,t.small,t.pos⟩
 ·obtain ⟨d,r,b,a⟩:=t.elems
  grind
 ·obtain ⟨c,r,b,a⟩:=t.scales
  exact ⟨c,r,b,a.congr hS⟩
def Tab.c0(t:Tab h g o T M S):h.cell? (aC ⟨T.bt,0,none⟩ 0)=some (I T.cols):=by
 obtain ⟨e,a⟩:=t.head
 refine t.sep.cell ?_
 rw [D6];unfold Heap.cell?;grind
def Tab.c1(t:Tab h g o T M S):h.cell? (aC ⟨T.bt,0,none⟩ 1)=some (.slice (some ⟨T.bE,0,none⟩) (T.rows*T.cols) T.cE):=by
 obtain ⟨e,a⟩:=t.head
 refine t.sep.cell ?_
 rw [D6];unfold Heap.cell?;grind
def Tab.c2(t:Tab h g o T M S):h.cell? (aC ⟨T.bt,0,none⟩ 2)=some (.slice (some ⟨T.bS,0,none⟩) T.rows T.cS):=by
 obtain ⟨e,a⟩:=t.head
 refine t.sep.cell ?_
 rw [D6];unfold Heap.cell?;grind
def Tab.at(t:Tab h g o T M S){i j:Nat}(hi:i<T.rows)(hj:j<T.cols):∃ w:IV,ZIr g w (M i j)/\h.cell? (aC (aC ⟨T.bE,i*T.cols*2,none⟩ (j*2)) 0)=some (.bool w.s)/\h.cell? (aC (aC ⟨T.bE,i*T.cols*2,none⟩ (j*2)) 1)=some (.slice w.A w.n w.c):=by
 obtain ⟨k,r,m,d⟩:=t.elems
 obtain ⟨w,e,l⟩:=d i j hi hj
 have f:=Q4 hi hj
 have a:k[i*T.cols+j]=w:=by
  grind
 have b:i*T.cols*2+j*2=(i*T.cols+j)*2:=by rw [aY]
 refine ⟨w,l,t.sep.cell ?_,t.sep.cell ?_⟩
 ·rw [D6,D6,b]
  exact r.cell (i:=i*T.cols+j) oo (j:=0) (v:=.bool w.s) (by rw [a];rfl)
 ·rw [D6,D6,b]
  exact r.cell (i:=i*T.cols+j) oo (j:=1) (v:=.slice w.A w.n w.c) (by rw [a];rfl)
def Tab.ato(t:Tab h g o T M S){i j:Nat}(hi:i<T.rows)(hj:j<T.cols):∃ w:IV,ZIr g w (M i j)/\o.cell? (aC (aC ⟨T.bE,i*T.cols*2,none⟩ (j*2)) 0)=some (.bool w.s)/\o.cell? (aC (aC ⟨T.bE,i*T.cols*2,none⟩ (j*2)) 1)=some (.slice w.A w.n w.c):=by
 obtain ⟨k,r,m,d⟩:=t.elems
 obtain ⟨w,e,l⟩:=d i j hi hj
 have f:=Q4 hi hj
 have a:k[i*T.cols+j]=w:=by
  grind
 have b:i*T.cols*2+j*2=(i*T.cols+j)*2:=by rw [aY]
 refine ⟨w,l,?_,?_⟩
 ·rw [D6,D6,b]
  exact r.cell (i:=i*T.cols+j) oo (j:=0) (v:=.bool w.s) (by rw [a];rfl)
 ·rw [D6,D6,b]
  exact r.cell (i:=i*T.cols+j) oo (j:=1) (v:=.slice w.A w.n w.c) (by rw [a];rfl)
def Sep.le_le{h' g':aE}(s:Sep h g o)(s':Sep h' g' o)(l:g.le g'):h.le h':=fun k x e=>by
 cases ho:o k with
 | some y=>rw [s.own k y ho] at e;rw [s'.own k y ho];exact e
 | none=>rw [s.rest k ho] at e;rw [s'.rest k ho];exact l k x e
def Tab.sat(t:Tab h g o T M S){i:Nat}(hi:i<T.rows):∃ w:QV,RQ g w (S i)/\h.cell? (aC (aC ⟨T.bS,0,none⟩ (i*4)) 0)=some (.bool w.s)/\h.cell? (aC (aC ⟨T.bS,0,none⟩ (i*4)) 1)=some (.slice w.A w.n w.c)/\h.cell? (aC (aC ⟨T.bS,0,none⟩ (i*4)) 2)=some (.bool w.s2)/\h.cell? (aC (aC ⟨T.bS,0,none⟩ (i*4)) 3)=some (.slice w.A2 w.n2 w.c2):=by
 obtain ⟨l,r,f,a⟩:=t.scales
 obtain ⟨w,e,b⟩:=a i hi
 have cell:∀ k v,(enc w)[k]? = some v->h.cell? (aC (aC ⟨T.bS,0,none⟩ (i*4)) k)=some v:=by
  intro k v d
  refine t.sep.cell ?_
  rw [D6,D6,aH]
  exact r.cell (i:=i) oo (j:=k) gz0
 exact ⟨w,b,cell 0 _ rfl,cell 1 _ rfl,cell 2 _ rfl,cell 3 _ rfl⟩
def Tab.store(t:Tab h g o T M S){i j:Nat}(hi:i<T.rows)(hj:j<T.cols){w:IV}{z:Int}(hz:ZIr g w z){K:Unit->aE->Prop}
 (x:∀ h' o',Tab h' g o' T (C0r M i j z) S->(∀ k,k≠T.bE->o' k=o k)->K () h'):wpH prog (aO 219 (.pointer (some (aC ⟨T.bE,i*T.cols*2,none⟩ (j*2)))) w.v) K h:=by
 obtain ⟨L,r,N,B⟩:=t.elems
 have p:=Q4 hi hj
 have G:i*T.cols*2+j*2=(i*T.cols+j)*2:=by rw [aY]
 rw [D6,G]
 refine Sep.store (E:=inferInstanceAs (Enc IV)) Qi (v:=w.v) (y:=w) rfl t.sep r (i:=i*T.cols+j) oo rfl ?_
 intro h' o' H f n q
 refine x h' o' ⟨n,t.n1,t.n2,t.n3,?_,⟨_,q,gz0,fun a b l m=>?_⟩,?_,t.cE,t.cS,t.small,t.pos⟩ (fun k A=>by rw [f,B7 _ _ A])
 ·obtain ⟨e,F⟩:=t.head
  exact ⟨e,by rw [f,B7 _ _ t.n1];exact F⟩
 ·unfold C0r
  by_cases e:a=i/\b=j
  ·grind
  ·obtain ⟨u,D,O⟩:=B a b l m
   refine ⟨u,?_,gz0⟩
   rw [List.getElem?_set_ne (fun x=>e (by have:=B50 hj m x;omega))]
   exact D
 ·obtain ⟨s,C,d,c⟩:=t.scales
  exact ⟨s,by rw [f];exact C.other t.n3.symm _,d,c⟩
def Tab.sstore(t:Tab h g o T M S){i:Nat}(hi:i<T.rows){w:QV}{q:Rat}(hz:RQ g w q){K:Unit->aE->Prop}
 (x:∀ h' o',Tab h' g o' T M (fun a=>if a=i then q else S a)->(∀ k,k≠T.bS->o' k=o k)->K () h'):wpH prog (aO 244 (.pointer (some (aC ⟨T.bS,0,none⟩ (i*4)))) w.v) K h:=by
 obtain ⟨z,r,u,j⟩:=t.scales
 rw [D6,aH]
 refine Sep.store (E:=inferInstanceAs (Enc QV)) Eg (v:=w.v) (y:=w) rfl t.sep r (i:=i) oo rfl ?_
 intro h' o' A c l n
 refine x h' o' ⟨l,t.n1,t.n2,t.n3,?_,?_,⟨_,n,gz0,Row.upd j oo hz⟩,t.cE,t.cS,t.small,t.pos⟩ (fun k m=>by rw [c,B7 _ _ m])
 ·obtain ⟨e,p⟩:=t.head
  exact ⟨e,by rw [c,B7 _ _ t.n2];exact p⟩
 ·obtain ⟨s,f,b,d⟩:=t.elems
  exact ⟨s,by rw [c];exact f.other t.n3 _,b,d⟩
def K3{n:Nat}(h:n<=9223372036854775807):C3 (n:Int)=(n:Int):=B9 oo oo
def V3(t:Tab h g o T M S){i:Nat}(hi:i<T.rows)(hK:K (.slice (some ⟨T.bE,i*T.cols*2,none⟩) T.cols (T.cE-i*T.cols)) h):aJ prog 196 #[.pointer (some ⟨T.bt,0,none⟩),I (i:Int)] h K:=by
 refine (fnk func196) ?_
 have a:=t.small
 have l:=t.pos
 have j:(i+1)*T.cols<=T.rows*T.cols:=aD _ hi
 have f:T.rows*T.cols<=10000*10000:=aW a.1 a.2
 have k:=t.cE
 have d:(i+1)*T.cols=i*T.cols+T.cols:=gz0
 have c:C3 ((i:Int)*(T.cols:Int))=((i*T.cols:Nat):Int):=by exact K3 oo
 have b:C3 ((i:Int)+1)=((i+1:Nat):Int):=B9 oo oo
 have e:C3 (C3 ((i:Int)+1)*(T.cols:Int))=(((i+1)*T.cols:Nat):Int):=by rw [b,<- cG];exact K3 oo
 refine ⟨_,rfl,_,_,_,t.c1,_,rfl,_,t.c0,_,rfl,_,t.c0,?_⟩
 rw [c,e]
 refine ⟨⟨oo,oo⟩,⟨oo,oo⟩,?_⟩
 simp only [bJ]
 rw [Lr oo,D6,aH,d,Nat.add_sub_cancel_left]
 exact hK
def A08(t:Tab h g o T M S){start col:Nat}(hs:start<=T.rows)(hc:col<T.cols)
 (hK1:fnd (fun i=>decide (M i col≠0)) (T.rows-start) start<T.rows->K (.tuple #[I ((fnd (fun i=>decide (M i col≠0)) (T.rows-start) start:Nat):Int),.bool true]) h)
 (hK0:fnd (fun i=>decide (M i col≠0)) (T.rows-start) start=T.rows->K (.tuple #[I 0,.bool false]) h):aJ prog 204 #[.pointer (some ⟨T.bt,0,none⟩),I (start:Int),I (col:Int)] h K:=by
 refine (fnk func204 [(2,[8],[],[I 0])]) ?_
 refine ⟨fun L d=>∃ k:Nat,k<=T.rows/\L=[I k]/\d=h/\start<=k/\∀ j,start<=j->j<k->decide (M j col≠0)=false,fun L _=>T.rows-(iAt L 0).toNat,⟨start,hs,rfl,rfl,aF _,fun j c f=>oo⟩,?_⟩
 rintro i d ⟨k,s,u,rfl,b,l⟩
 obtain rfl:i=(k:Int):=gz0
 refine ⟨_,rfl,_,_,_,t.c2,C0 (fun p=>?_) (fun m=>?_)⟩
 ·have a:k<T.rows:=oo
  refine V3 t a ⟨_,_,_,rfl,_,rfl,oo,oo,?_⟩
  obtain ⟨w,n,q,r⟩:=t.at a hc
  refine ⟨_,_,_,_,q,r,F5 (n.mono t.sep.le) ⟨_,rfl,Br.not (C0 (fun e=>?_) (fun e=>?_))⟩⟩
  ·rw [show C3 ((k:Int)+1)=((k+1:Nat):Int) by have:=t.small;rw [B9]<;>omega]
   refine ⟨⟨k+1,oo,rfl,rfl,oo,fun j c f=>?_⟩,by simp only [Y2];omega⟩
   grind
  ·have:fnd (fun i=>decide (M i col≠0)) (T.rows-start) start=k:=Uo _ b oo l (fun _=>gz0)
   grind
 ·have:fnd (fun i=>decide (M i col≠0)) (T.rows-start) start=T.rows:=Uo _ hs oo (fun j c f=>l j c oo) (fun y=>oo)
  grind
def A6w(t:Tab h g o T M S){i k:Nat}(hi:i<T.rows)(hk:k<T.rows)(hik:i≠k)
 (hK:∀ h' o',Tab h' g o' T (fun a=>M (xch i k a)) (fun a=>S (xch i k a))->(∀ b,b≠T.bE->b≠T.bS->o' b=o b)->K (.tuple #[]) h'):aJ prog 205 #[.pointer (some ⟨T.bt,0,none⟩),I (i:Int),I (k:Int)] h K:=by
 refine (fnk func205 [(2,[17],[],[I 0])]) ?_
 refine V3 t hi ⟨_,_,_,rfl,V3 t hk ⟨_,_,_,rfl,?_⟩⟩
 refine ⟨fun L C=>∃ (c:Nat) (r:aE),c<=T.cols/\L=[I c]/\Tab C g r T (fun a b=>if b<c then M (xch i k a) b else M a b) S/\∀ b,b≠T.bE->r b=o b,fun L _=>T.cols-(iAt L 0).toNat,⟨0,o,oo,rfl,t.congr (fun a b _ _=>oo) (fun _ _=>rfl),fun _ _=>rfl⟩,?_⟩
 rintro z C ⟨c,r,hc,eL,t1,V⟩
 obtain rfl:z=(c:Int):=gz0
 refine C0 (fun H=>?_) (fun E=>?_)
 ·have d:c<T.cols:=oo
  obtain ⟨l,f,s,q⟩:=t1.at hk d
  obtain ⟨B,e,j,y⟩:=t1.at hi d
  rw [iN (bX c)] at f e
  refine ⟨_,rfl,oo,oo,_,_,_,_,s,q,_,rfl,oo,oo,_,_,_,_,j,y,_,rfl,oo,oo,?_⟩
  refine t1.store hi d (w:=l) f ?_
  intro N Q m A
  refine ⟨_,rfl,oo,oo,?_⟩
  refine m.store hk d (w:=B) e ?_
  intro D u n p
  rw [show C3 ((c:Int)+1)=((c+1:Nat):Int) by have:=t.small;rw [B9]<;>omega]
  refine ⟨⟨c+1,u,oo,rfl,n.congr (fun a b _ _=>?_) (fun _ _=>rfl),fun b O=>gz0⟩,by simp only [Y2];omega⟩
  show (if a=k/\b=c then M i c else if a=i/\b=c then M k c else if b<c then M (xch i k a) b else M a b)=if b<c+1 then M (xch i k a) b else M a b
  unfold xch
  grind
 ·obtain ⟨l,f,s,q,F,G⟩:=t1.sat hk
  obtain ⟨B,e,j,y,R,X⟩:=t1.sat hi
  refine ⟨_,rfl,_,_,_,t1.c2,_,rfl,_,_,_,t1.c2,_,rfl,_,_,_,t1.c2,_,rfl,oo,oo,_,_,_,_,_,_,_,_,s,q,F,G,_,rfl,_,_,_,t1.c2,_,rfl,oo,oo,_,_,_,_,_,_,_,_,j,y,R,X,_,rfl,oo,oo,?_⟩
  refine t1.sstore hi (w:=l) f ?_
  intro N Q m A
  refine ⟨_,rfl,oo,oo,?_⟩
  refine m.sstore hk (w:=B) e ?_
  intro D u n p
  refine hK D u (n.congr (fun a b _ O=>oo) (fun a _=>?_)) (fun b aa W=>gz0)
  show (if a=k then S i else if a=i then S k else S a)=S (xch i k a)
  unfold xch
  grind
end
def Ob{P:cI}{t:aK}{v:aP}{K:VP}{h:aE}(x:∀ b,h b=none->K (.pointer (some ⟨b,0,none⟩)) (h.put b (.cells v.cells t))):wpH P (Instr.box t v) K h:=by
 exact x
def A7p{m k:Nat}(hm:1<=m)(hk:k<4611686018427387904):(k:Int)*2^(2*m)<b64^m:=by
 have e:b64^m=(2:Int)^(2*m)*2^(62*m):=by
  have:b64=(2:Int)^64:=dc
  rw [this,<- Int.pow_mul,<- Int.pow_add]
  grind
 have a:(2:Int)^62<=2^(62*m):=D5 dc o
 have c:(k:Int)<2^62:=by
  omega
 have b:(0:Int)<2^(2*m):=bW dc
 rw [e,Int.mul_comm]
 exact Int.mul_lt_mul_of_pos_left (Int.lt_of_lt_of_le c a) b
def A26{m:Nat}{x y:Int}(hx:ZB m x)(hy:ZB m y):((x*y).natAbs:Int)<=2^(2*m):=by
 have:=hx.mul hy
 unfold ZB at this
 grind
section
variable {h g o:aE} {T:Tb} {M:Nat->Nat->Int} {S:Nat->Rat} {K:VP} {m:Nat}
def A3g:(prog.info? 345).map (·.zero)=some (some (.agg #[.slice none 0 0,.slice none 0 0])):=by kernel_rfl
def Ur(t:Tab h g o T M S){i p c:Nat}{wb:IV}{d:Int}(hi:i<T.rows)(hp':p<T.rows)(hip:i≠p)(hc:c<T.cols)(ib:ZIr g wb d)(hd:d≠0)(hm1:1<=m)(hm:2*m+1<=100000000)(hMi:∀ b,b<T.cols->ZB m (M i b))(hMp:∀ b,b<T.cols->ZB m (M p b))(hdb:ZB m d)
 (hK:∀ h' g' o',g.le g'->Tab h' g' o' T (fun a b=>if a=i then (M p c*M i b-M i c*M p b).tdiv d else M a b) S->(∀ b,b≠T.bE->o' b=o b)->K (.tuple #[]) h'):aJ prog 206 #[.pointer (some ⟨T.bt,0,none⟩),I (i:Int),I (p:Int),I (c:Int),wb.v] h K:=by
 refine (fnk func206 [(4,[28],[],[I 0])] (cs:=[(7,[],[],[])]) (os:=[(10,[0,1,3,2,4,5,6])]) (own:=[9,12,14]) (wr:=[255,256])) ?_
 refine V3 t hi ⟨_,_,_,rfl,V3 t hp' ⟨_,_,_,rfl,?_⟩⟩
 obtain ⟨wf,zf,f0,f1⟩:=t.at hi hc
 refine ⟨_,rfl,oo,oo,_,_,_,_,f0,f1,?_⟩
 refine ⟨fun L R=>∃ (k:Nat) (j l:aE),k<=T.cols/\L=[I k]/\g.le j/\Tab R j l T (fun a b=>if a=i/\b<k then (M p c*M i b-M i c*M p b).tdiv d else M a b) S/\∀ b,b≠T.bE->l b=o b,fun L _=>T.cols-(iAt L 0).toNat,⟨0,g,o,oo,rfl,B6 _,t.congr (fun a b _ _=>oo) (fun _ _=>rfl),fun _ _=>rfl⟩,?_⟩
 rintro z V ⟨k,j,l,hk,eL,E,t1,N⟩
 obtain rfl:z=(k:Int):=gz0
 have ew:C3 ((k:Int)+1)=((k+1:Nat):Int):=by have:=t.small;rw [B9]<;>omega
 refine C0 (fun ad=>?_) (fun ac=>?_)
 ·have f:k<T.cols:=oo
  obtain ⟨w1,Q,d0,d1⟩:=t1.at hi f
  rw [iN oo] at Q
  have same:(M p c*M i k-M i c*M p k).tdiv d=M i k->(∃ (k':Nat) (j l:aE),k'<=T.cols/\[I (C3 ((k:Int)+1))]=[I k']/\g.le j/\Tab V j l T (fun a b=>if a=i/\b<k' then (M p c*M i b-M i c*M p b).tdiv d else M a b) S/\∀ b,b≠T.bE->l b=o b)/\T.cols-(iAt [I (C3 ((k:Int)+1))] 0).toNat<T.cols-(iAt [I (k:Int)] 0).toNat:=by
   intro e
   rw [ew]
   refine ⟨⟨k+1,j,l,oo,rfl,E,t1.congr (fun a b _ _=>?_) (fun _ _=>rfl),N⟩,by simp only [Y2];omega⟩
   grind
  refine ⟨_,rfl,oo,oo,_,_,_,_,d0,d1,fun L R=>R=V,?_,?_⟩
  ·refine F5 (Q.mono t1.sep.le) ⟨_,rfl,C0 (fun e1=>?_) (fun _=>rfl)⟩
   refine F5 (zf.mono (B0 E t1.sep.le)) ⟨_,rfl,C0 (fun e2=>same (by simp_all)) (fun _=>?_)⟩
   obtain ⟨w2,G,c0,c1⟩:=t1.at hp' f
   refine ⟨_,rfl,oo,oo,_,_,_,_,c0,c1,F5 (G.mono t1.sep.le) ⟨_,rfl,C0 (fun e3=>same (by simp_all)) (fun _=>rfl)⟩⟩
  ·rintro R rfl
   refine Ck A3g ?_
   intro bs q
   have aa:j bs=none:=by
    cases hx:j bs with
    | none=>rfl
    | some y=>rw [t1.sep.le _ _ hx] at q;cases q
   have W:=t1.sep.vis q (.cells #[.slice none 0 0,.slice none 0 0] 345)
   have Z0:SumS (j.put bs (.cells #[.slice none 0 0,.slice none 0 0] 345)) j bs 345 200000001 0 0:=SumS.zero aa
   obtain ⟨w3,z3,a0,a1⟩:=t1.ato hp' hc
   obtain ⟨w2,G,c0,c1⟩:=t1.ato hp' f
   rw [iN oo] at G z3
   have O:∀ {gg:aE} {w:IV} {x:Int},ZIr gg w x->ZB m x->w.n<=100000000:=fun i b=>ZI.len i b oo
   have s:=hMp c hc
   have r:=hMi k f
   have B:=hMi c hc
   have u:=hMp k f
   have q1:=A26 s r
   have q2:=A26 B u
   have q0:=A7p (m:=m) (k:=2) hm1 oo
   have l3:=O z3 s
   have l1:=O Q r
   have lf:=O zf B
   have l2:=O G u
   refine ⟨_,rfl,_,rfl,oo,oo,_,_,_,_,W.cell a0,W.cell a1,?_⟩
   refine W.call (Af Z0 z3 Q oo oo (N1:=m) oo oo ?_)
   intro G3 g3 C Z3 H3 s3
   refine ⟨rfl,_,rfl,oo,oo,_,_,_,_,s3.cell c0,s3.cell c1,?_⟩
   refine s3.call (Pb Z3 (zf.mono (B0 E C)) (G.mono C) oo oo (N1:=m) oo oo ?_)
   intro G4 g4 X Z4 H4 s4
   refine ⟨rfl,s4.call (Kb Z4 oo ?_)⟩
   intro sv Av nv cv G5 F z5 H5 s5
   rw [Int.zero_add] at z5
   refine ⟨_,_,_,_,rfl,s4.le_le s5 F,?_⟩
   have D:j.le G5:=B0 C (B0 X (B0 Z4.le F))
   have bz:ZB (2*m+1) (M p c*M i k-M i c*M p k):=((s.mul r).sub (B.mul u)).mono oo
   refine s5.call (Q8 z5 (ib.mono (B0 E D)) bz (hdb.mono oo) oo hd ?_)
   intro s6 A6 n6 c6 G6 A z6 H6 H
   refine ⟨_,_,_,_,rfl,s5.le_le H A,_,rfl,oo,oo,?_⟩
   have t6:=t1.next H (B0 D A)
   refine t6.store hi f (w:=⟨s6,A6,n6,c6⟩) z6 ?_
   intro H7 o7 t7 ae
   rw [ew]
   refine ⟨⟨k+1,G6,o7,oo,rfl,B0 E (B0 D A),t7.congr (fun a b _ _=>?_) (fun _ _=>rfl),fun b hb=>gz0⟩,by simp only [Y2];omega⟩
   show (if a=i/\b=k then (M p c*M i k-M i c*M p k).tdiv d else if a=i/\b<k then (M p c*M i b-M i c*M p b).tdiv d else M a b)=_
   grind
 ·exact hK V j l E (t1.congr (fun a b _ hb=>by
   omega) (fun _ _=>rfl)) N
def B0q(n:Nat)(s:PS)(h:s.cs=[]):∀ c,(Fv n s c).cs.length<=c:=by
 intro c
 induction c with
 | zero=>show s.cs.length<=0;grind
 | succ c ih=>
  show (Co n c (Fv n s c)).cs.length<=c+1
  unfold Co
  grind
def Yt(n:Nat)(s:PS)(h:s.last≠0)(hs:s.sgn=1\/s.sgn= -1)(hl:s.cs.length<=n):∀ c,(Fv n s c).last≠0/\((Fv n s c).sgn=1\/(Fv n s c).sgn= -1)/\(Fv n s c).cs.length<=n:=by
 intro c
 induction c with
 | zero=>exact ⟨h,hs,hl⟩
 | succ c ih=>
  obtain ⟨d,f,b⟩:=ih
  show (Co n c (Fv n s c)).last≠0/\((Co n c (Fv n s c)).sgn=1\/(Co n c (Fv n s c)).sgn= -1)/\(Co n c (Fv n s c)).cs.length<=n
  have e:=A1u n c (Fv n s c) b
  unfold Co
  by_cases a:Qp n c (Fv n s c)<n
  ·rw [iP a]
   have:=Ws (fun i=>decide ((Fv n s c).M i c≠0)) (n-(Fv n s c).cs.length) (Fv n s c).cs.length (by unfold Qp at a;omega)
   refine ⟨by simpa [Qp] using this,?_,?_⟩
   ·grind
   grind
  grind
def O5{α:Type}[E:Enc α]{P:cI}{t e ty:aK}{z:aP}{bytes:Nat}(st:cH P t e z E.default.size bytes){h g o:aE}{A:Option aG}{c n:Nat}{xs:List α}(s:Sep h g o)(w:OwnSl o e A c xs)(hxn:n=xs.length){v:aP}{y:α}(hv:v.cells=(enc y).toArray)(hsz:E.default.size<=1000)
 (hb:(2*(xs.length+1)+192)*bytes<=281474976710656) (hn:xs.length+1<=9223372036854775807) {K:Option aG->Nat->Nat->aE->Prop}
 (x:∀ A' c' h' g' o',g.le g'->Sep h' g' o'->OwnSl o' e A' c' (xs++[y])->(∀ k u,o k=some u->A≠some ⟨k,0,none⟩->o' k=some u/\A'≠some ⟨k,0,none⟩)->K A' (xs.length+1) c' h'):
 wpH P (bM t 1 #[(0,v)]) (fun v' hp=>∃ (B:Option aG) (m d:Nat),v'= .slice B m d/\wpH P (bF #[t,t] ty #[.slice A n c,.slice B m d]) (fun v1 hp1=>∃ (A':Option aG) (n' c':Nat),v1= .slice A' n' c'/\K A' n' c' hp1) hp) h:=by
 refine Ha _ (OwnSl.push (ty:=ty) st s w hv hsz hb hn (K1:=fun _=>True) (K:=K) (fun _ _=>trivial) x) ?_
 grind
def Tab.own(t:Tab h g o T M S):(∃ x,o T.bt=some x)/\(∃ x,o T.bE=some x)/\∃ x,o T.bS=some x:=by
 obtain ⟨e,b⟩:=t.head
 obtain ⟨k,⟨a,j,f⟩,_⟩:=t.elems
 obtain ⟨d,⟨i,l,c⟩,_⟩:=t.scales
 grind
def Tab.keep(t:Tab h g o T M S){h' g' o':aE}(s:Sep h' g' o')(l:g.le g')(hk:∀ k x,o k=some x->k=T.bt\/k=T.bE\/k=T.bS->o' k=some x):Tab h' g' o' T M S:=by
 refine ⟨s,t.n1,t.n2,t.n3,?_,?_,?_,t.cE,t.cS,t.small,t.pos⟩
 ·obtain ⟨e,q⟩:=t.head
  grind
 ·obtain ⟨m,⟨e,ex,c⟩,b,a⟩:=t.elems
  refine ⟨m,⟨e,ex,hk _ _ c (.inr (.inl rfl))⟩,b,fun i j n d=>?_⟩
  obtain ⟨w,e,p⟩:=a i j n d
  exact ⟨w,e,Cu _ _ _ _ l p⟩
 ·obtain ⟨f,⟨e,ex,c⟩,b,a⟩:=t.scales
  exact ⟨f,⟨e,ex,hk _ _ c (.inr (.inr rfl))⟩,b,a.mono G1 l⟩
abbrev zs(l:List Nat):List Int:=l.map fun (n:Nat)=>(n:Int)
def B2f(T:Tb)(A:Option aG):Prop:=A≠some ⟨T.bt,0,none⟩/\A≠some ⟨T.bE,0,none⟩/\A≠some ⟨T.bS,0,none⟩
def Yw(t:Tab h g o T M S){c l nq:Nat}(hc:c<=T.cols)(hm1:1<=m)(hnq:∀ k,k<=c->(Fv T.rows ⟨M,S,[],1,1⟩ k).cs.length<=nq)(hm:2*(3^nq*m)+1<=100000000)(hz:ZbP T.rows T.cols m l ⟨M,S,[],1,1⟩)
 (hK:∀ h' g' o' A cap w,g.le g'->Tab h' g' o' T (Fv T.rows ⟨M,S,[],1,1⟩ c).M (Fv T.rows ⟨M,S,[],1,1⟩ c).S->OwnSl o' 3 A cap (zs (Fv T.rows ⟨M,S,[],1,1⟩ c).cs)->B2f T A->(∀ k x,o k=some x->k≠T.bE->k≠T.bS->o' k=some x/\A≠some ⟨k,0,none⟩)->ZIr g' w (Fv T.rows ⟨M,S,[],1,1⟩ c).last->
  K (.tuple #[.slice A (Fv T.rows ⟨M,S,[],1,1⟩ c).cs.length cap,w.v,I (Fv T.rows ⟨M,S,[],1,1⟩ c).sgn]) h'):aJ prog 152 #[.pointer (some ⟨T.bt,0,none⟩),I (c:Int)] h K:=by
 refine (fnk func152 [(4,[7,9,17],[(8,2)],[.slice none 0 0,I 0,I 0,.bool false,.slice none 0 0]),(13,[45],[],[I 0])] (cs:=[(12,[9],[],[I 0])]) (own:=[5,8]) (wr:=[205,206])) ?_
 have ay:=t.small
 refine t.sep.call (Dd oo oo ?_)
 intro s1 A1 n1 c1 g1 l1 i1 h1 an
 have t1:=t.next an l1
 refine ⟨_,_,_,_,rfl,fun L hp=>∃ (k:Nat) (g' o':aE) (A:Option aG) (cap:Nat) (w:IV),k<=c/\L=[.slice A (Fv T.rows ⟨M,S,[],1,1⟩ k).cs.length cap,I (Fv T.rows ⟨M,S,[],1,1⟩ k).sgn,I k,.bool w.s,.slice w.A w.n w.c]/\g.le g'/\Tab hp g' o' T (Fv T.rows ⟨M,S,[],1,1⟩ k).M (Fv T.rows ⟨M,S,[],1,1⟩ k).S/\OwnSl o' 3 A cap (zs (Fv T.rows ⟨M,S,[],1,1⟩ k).cs)/\B2f T A/\(∀ k x,o k=some x->k≠T.bE->k≠T.bS->o' k=some x/\A≠some ⟨k,0,none⟩)/\ZIr g' w (Fv T.rows ⟨M,S,[],1,1⟩ k).last,
  fun L _=>c-(iAt L 2).toNat,⟨0,g1,o,none,0,⟨s1,A1,n1,c1⟩,oo,rfl,l1,t1,(OwnSl.nil:OwnSl o 3 none 0 ([]:List Int)),⟨by simp,by simp,by simp⟩,fun k x e _ _=>⟨e,by simp⟩,i1⟩,?_⟩
 rintro pA pn pc av z ls lA ln lc hp ⟨k,g2,o2,A,cap,w,hk,eL,lg,t2,ow,u,ko,iw⟩
 obtain ⟨⟨rfl,rfl,rfl⟩,rfl,rfl,rfl,rfl,rfl,rfl⟩:=eL
 have E:=Yt T.rows ⟨M,S,[],1,1⟩ (show (1:Int)≠0 from dc) (.inl rfl) (aQ _) k
 have D:=hz.run hm1 k oo
 refine C0 (fun a0=>?_) (fun a5=>?_)
 ·have G:k<T.cols:=oo
  have ew:C3 ((k:Int)+1)=((k+1:Nat):Int):=by rw [B9]<;>omega
  have aj:Fv T.rows ⟨M,S,[],1,1⟩ (k+1)=Co T.rows k (Fv T.rows ⟨M,S,[],1,1⟩ k):=rfl
  have aw:3^(Fv T.rows ⟨M,S,[],1,1⟩ k).cs.length*m<=3^nq*m:=aD _ (bN dc (hnq k oo))
  have R:=A3t (Fv T.rows ⟨M,S,[],1,1⟩ k).cs.length m hm1
  generalize hst0:Fv T.rows ⟨M,S,[],1,1⟩ k=st at *
  have X:fnd (fun i=>decide (st.M i k≠0)) (T.rows-st.cs.length) st.cs.length=Qp T.rows k st:=rfl
  have a3:=A1u T.rows k st E.2.2
  refine A08 t2 E.2.2 G (fun V=>?_) (fun V=>?_)
  ·rw [X] at V ⊢
   have q:Co T.rows k st={ M:=clr (fun i=>st.M (xch st.cs.length (Qp T.rows k st) i)) st.cs.length k st.last,S:=fun i=>st.S (xch st.cs.length (Qp T.rows k st) i),cs:=st.cs++[k],last:=st.M (Qp T.rows k st) k,sgn:=if Qp T.rows k st=st.cs.length then st.sgn else-st.sgn }:=by unfold Co;grind
   generalize hr:Qp T.rows k st=r at *
   have p:st.cs.length<T.rows:=oo
   refine ⟨_,_,rfl,fun L hq=>∃ (g3 B:aE),L=[I (if r=st.cs.length then st.sgn else-st.sgn)]/\g2.le g3/\Tab hq g3 B T (fun i=>st.M (xch st.cs.length r i)) (fun i=>st.S (xch st.cs.length r i))/\∀ b,b≠T.bE->b≠T.bS->B b=o2 b,?_,?_⟩
   ·refine E6 (fun af=>?_) (fun al=>?_)
    ·have d:r≠st.cs.length:=oo
     refine A6w t2 p V (fun e=>d e.symm) ?_
     intro h3 B t3 aa
     refine ⟨rfl,g2,B,?_,B6 _,t3,aa⟩
     rw [iN d]
     have:C3 (0-st.sgn)= - st.sgn:=by rw [B9]<;>omega
     rw [this]
    ·refine ⟨g2,o2,gz0,B6 _,t2.congr (fun i j _ _=>?_) (fun i _=>?_),fun _ _ _=>rfl⟩
     ·unfold xch;grind
     ·unfold xch;grind
   ·rintro aq h4 ⟨g3,B,a1,l3,t3,aa⟩
    obtain rfl:aq=if r=st.cs.length then st.sgn else-st.sgn:=gz0
    refine ⟨_,rfl,_,_,_,t3.c2,?_⟩
    have xk:xch st.cs.length r st.cs.length=r:=Jo _ _
    have ak:∀ i,i<T.rows->xch st.cs.length r i<T.rows:=fun i hi=>Hz p V hi
    refine ⟨fun L hq=>∃ (i:Nat) (O H:aE),i<=T.rows/\L=[I i]/\g3.le O/\Tab hq O H T (fun a b=>if a<i/\a≠st.cs.length then clr (fun i=>st.M (xch st.cs.length r i)) st.cs.length k st.last a b else st.M (xch st.cs.length r a) b) (fun i=>st.S (xch st.cs.length r i))/\∀ b,b≠T.bE->H b=B b,fun L _=>T.rows-(iAt L 0).toNat,⟨0,g3,B,oo,rfl,B6 _,t3.congr (fun a b _ _=>oo) (fun _ _=>rfl),fun _ _=>rfl⟩,?_⟩
    rintro zi h5 ⟨i,O,H,hi,a4,l4,t4,ao⟩
    obtain rfl:zi=(i:Int):=gz0
    have ad:C3 ((i:Int)+1)=((i+1:Nat):Int):=by rw [B9]<;>omega
    refine C0 (fun au=>?_) (fun ax=>?_)
    ·have ac:i<T.rows:=oo
     refine E6 (fun af=>?_) (fun al=>?_)
     ·have d:i≠st.cs.length:=oo
      refine Ur (m:=3^st.cs.length*m) t4 ac p d G (Cu _ _ _ _ (B0 l3 l4) iw) E.1 R oo (fun b N=>?_) (fun b N=>?_) D.last ?_
      ·rw [iN oo];exact D.M _ b (ak i ac) N
      ·rw [iN oo,xk];exact D.M r b V N
      intro h6 g6 o6 l6 t6 a2
      refine ⟨rfl,?_⟩
      rw [ad]
      refine ⟨⟨i+1,g6,o6,oo,rfl,B0 l4 l6,t6.congr (fun a b _ _=>?_) (fun _ _=>rfl),fun b N=>gz0⟩,by simp only [Y2];omega⟩
      show (if a=i then ((if st.cs.length<i/\st.cs.length≠st.cs.length then _ else st.M (xch st.cs.length r st.cs.length) k)*(if i<i/\i≠st.cs.length then _ else st.M (xch st.cs.length r i) b)-(if i<i/\i≠st.cs.length then _ else st.M (xch st.cs.length r i) k)*(if st.cs.length<i/\st.cs.length≠st.cs.length then _ else st.M (xch st.cs.length r st.cs.length) b)).tdiv st.last else if a<i/\a≠st.cs.length then clr (fun i=>st.M (xch st.cs.length r i)) st.cs.length k st.last a b else st.M (xch st.cs.length r a) b)=if a<i+1/\a≠st.cs.length then clr (fun i=>st.M (xch st.cs.length r i)) st.cs.length k st.last a b else st.M (xch st.cs.length r a) b
      by_cases ea:a=i
      ·unfold clr
       grind
      omega
     ·rw [ad]
      refine ⟨⟨i+1,O,H,oo,rfl,l4,t4.congr (fun a b _ _=>?_) (fun _ _=>rfl),ao⟩,by simp only [Y2];omega⟩
      omega
    ·have Q:Tab h5 O H T (clr (fun i=>st.M (xch st.cs.length r i)) st.cs.length k st.last) (fun i=>st.S (xch st.cs.length r i)):=t4.congr (fun a b ha _=>by
      by_cases h7:a=st.cs.length
      ·unfold clr;grind
      omega) (fun _ _=>rfl)
     refine V3 Q p ⟨_,_,_,rfl,_,rfl,oo,oo,?_⟩
     obtain ⟨wl,zl,d0,d1⟩:=Q.at p G
     have ah:ZIr O wl (st.M r k):=by
      have:clr (fun i=>st.M (xch st.cs.length r i)) st.cs.length k st.last st.cs.length k=st.M r k:=by unfold clr;grind
      grind
     refine ⟨_,_,_,_,d0,d1,?_⟩
     have C:∀ b,b≠T.bE->b≠T.bS->H b=o2 b:=fun b h1 h2=>by grind
     have am:OwnSl H 3 pA pc (zs st.cs):=ow.keep fun b x hA N=>by
      rw [C b (fun e=>u.2.1 gz0) (fun e=>u.2.2 gz0)];exact N
     have W:(zs st.cs).length=st.cs.length:=by simp
     refine O5 (ty:=22) Pa Q.sep am (by simp) (y:=((k:Nat):Int)) rfl dc oo oo ?_
     intro A' c' h' g' o' F s' az f
     obtain ⟨⟨x1,ar⟩,⟨x2,ae⟩,⟨x3,ai⟩⟩:=Q.own
     have t':=Q.keep s' F (fun kk x e ag=>by
      rcases ag with rfl|rfl|rfl
      ·exact (f _ _ e u.1).1
      ·exact (f _ _ e u.2.1).1
      ·exact (f _ _ e u.2.2).1)
     rw [W,ew]
     refine ⟨⟨k+1,g',o',A',c',wl,oo,?_,B0 lg (B0 l3 (B0 l4 F)),?_⟩,?_⟩
     ·grind
     ·rw [aj,q]
      refine ⟨t',gz0,⟨(f _ _ ar u.1).2,(f _ _ ae u.2.1).2,(f _ _ ai u.2.2).2⟩,fun kk x e h1 h2=>?_,Cu _ _ _ _ F ah⟩
      grind
     ·show c-((k+1:Nat):Int).toNat<c-((k:Nat):Int).toNat
      omega
  ·have q:Co T.rows k st=st:=by unfold Co;grind
   refine ⟨_,_,rfl,?_⟩
   rw [ew]
   refine ⟨⟨k+1,g2,o2,pA,pc,w,oo,gz0,lg,?_⟩,?_⟩
   ·grind
   ·show c-((k+1:Nat):Int).toNat<c-((k:Nat):Int).toNat
    omega
 grind
end
section
variable {h:aE} {K:VP} {A B:Option aG} {n c n' c' m:Nat} {s s':Bool} {x y:Int}
def B3x:RQ h ⟨false,none,0,0,false,none,0,0⟩ 0:=⟨ZI.zero,ZI.zero⟩
def A3k{z:Int}(i:ZI h s A n c z):RQ h ⟨s,A,n,c,false,none,0,0⟩ (z:Rat):=⟨by assumption,by simpa using ZI.zero⟩
def O2(gl:Gtz h)(ix:ZI h s A n c x)(iy:ZI h s' B n' c' y)(hx:ZB m x)(hy:ZB m y)(hm:m<=6400000000)(hK:∀ w h',h.le h'->RQ h' w (aS x y)->K w.v h'):aJ prog 193 #[.agg #[.bool s,.slice A n c],.agg #[.bool s',.slice B n' c']] h K:=by
 refine (fnk func193 (cs:=[(2,[11],[],[.bool false]),(5,[],[(2,2),(3,2)],[.bool false,.slice none 0 0,.bool false,.slice none 0 0])]) (os:=[(4,[0,2,1,3,4,5]),(9,[0,1,3,4,2,5,6,7])]) (own:=[2,3,4,5])) ?_
 refine ⟨fun L R=>R=h/\((L=[.bool true]/\aS x y=0)\/(L=[.bool false]/\y≠0)),?_,?_⟩
 ·refine F5 iy ⟨_,rfl,C0 (fun e=>⟨rfl,.inl ⟨rfl,by simp_all⟩⟩) (fun e=>F5 ix ⟨_,rfl,rfl,?_⟩)⟩
  by_cases Q:x=0
  ·simp_all
  grind
 rintro t R ⟨rfl,hL⟩
 refine Br.of (fun e=>?_) (fun e=>?_)
 ·rcases hL with ⟨_,h0⟩|⟨h1,_⟩
  ·rw [h0] at hK
   exact hK _ _ (B6 _) B3x
  grind
 refine ⟨fun l z=>∃ s A n c s' B n' c' d b,l=[.bool s,.slice A n c,.bool s',.slice B n' c']/\R.le z/\ZI z s A n c d/\ZI z s' B n' c' b/\0<b/\aS d b=aS x y/\ZB m d/\ZB m b,?_,?_⟩
 ·refine Mq iy ⟨_,rfl,C0 (fun e=>?_) (fun e=>?_)⟩
  ·have aa:y<0:=gz0
   refine Be ix ?_
   intro W r
   refine ⟨_,_,_,_,rfl,B6 _,?_⟩
   refine Be iy ?_
   intro V k
   exact ⟨_,_,_,_,rfl,B6 _,_,_,_,_,_,_,_,_,-x,-y,rfl,B6 _,r,k,o,Rat.neg_divInt_neg x y,hx.neg,hy.neg⟩
  ·have f:0<y:=gz0
   exact ⟨_,_,_,_,_,_,_,_,x,y,rfl,B6 _,ix,iy,f,rfl,hx,hy⟩
 rintro W A1 n1 c1 V A2 n2 c2 ad ⟨E,A1',T,H,N,A2',G,O,d,b,hl,i,r,k,f,z,u,j⟩
 obtain ⟨rfl,⟨rfl,rfl,rfl⟩,rfl,rfl,rfl,rfl⟩:W=E/\(A1=A1'/\n1=T/\c1=H)/\V=N/\A2=A2'/\n2=G/\c2=O:=gz0
 rw [<- z] at hK
 refine Q9 k ⟨_,rfl,C0 (fun X=>?_) (fun X=>?_)⟩
 ·rw [X,Hp] at hK
  exact hK _ _ i (A3k r)
 refine Bf (gl.mono i) r k u j hm ?_
 intro A3 n3 c3 h3 p S
 refine ⟨_,_,_,_,rfl,?_⟩
 generalize hqq:aS d b=q at *
 have a:q.num=d/(cX d b:Int):=by
  rw [<- hqq,Rat.num_divInt,Int.sign_eq_one_of_pos f,Int.one_mul,Int.gcd_comm]
 have g:(q.den:Int)=b/(cX d b:Int):=by
  rw [<- hqq,Rat.den_divInt,iN o,Int.gcd_comm,Int.natCast_ediv,Int.natAbs_of_nonneg o]
 have ac:0<cX d b:=Int.gcd_pos_of_ne_zero_right d o
 have C:ZB m (cX d b:Int):=ZB.gcd o j
 refine Q9 S ⟨_,rfl,Br.not (C0 (fun Q=>?_) (fun Q=>?_))⟩
 ·rw [Q] at a g
  simp at a g
  refine T8 (q:=q) (r.mono p) (k.mono p) a g ?_
  intro w F
  exact ⟨_,_,_,_,_,_,_,_,rfl,hK _ _ (B0 i p) F⟩
 ·refine Q8 (r.mono p) S u C hm o ?_
  intro s4 A4 n4 c4 h4 D i4
  refine ⟨_,_,_,_,rfl,D,?_⟩
  refine Q8 ((k.mono p).mono D) (S.mono D) j C hm o ?_
  intro s5 A5 n5 c5 h5 M i5
  refine ⟨_,_,_,_,rfl,M,?_⟩
  refine T8 (q:=q) (i4.mono M) i5 (by rw [a,Int.tdiv_eq_ediv_of_dvd (Int.gcd_dvd_left d b)]) gz0 ?_
  intro w F
  exact ⟨_,_,_,_,_,_,_,_,rfl,hK _ _ (B0 i (B0 p (B0 D M))) F⟩
end
section
variable {α:Type} [E:Enc α]
def OwnSl.store{P:cI}{t e:aK}(one:P.cellsOf t=E.default.size/\(P.info? t).isSome=true){v:aP}{y:α}(hv:v.cells=(enc y).toArray){h g o:aE}{A:Option aG}{c:Nat}{xs:List α}(s:Sep h g o)(w:OwnSl o e A c xs){i b:Nat}(hi:i<xs.length)(hA:A=some ⟨b,0,none⟩){K:Unit->aE->Prop}
 (x:∀ h' o',Sep h' g o'->OwnSl o' e A c (xs.set i y)->(∀ k,k≠b->o' k=o k)->K () h'):wpH P (aO t (.pointer (some (aC ⟨b,0,none⟩ (i*E.default.size)))) v) K h:=by
 rcases w.2 with ⟨D,_⟩|⟨F,j,d,p,r,B⟩
 ·exfalso;grind
 ·rw [hA] at d
  simp only [aM,aU,and_true] at d
  subst d
  obtain ⟨ex,hex⟩:∃ ex,j=xs.flatMap enc++ex:=⟨j.drop (xs.length*E.default.size),by rw [<- B,aV]⟩
  rw [hex] at p r
  obtain ⟨u,f⟩:=Option.isSome_iff_exists.1 one.2
  have C:u.size=E.default.size:=by simpa [Program.cellsOf,f] using one.1
  have m:=E.default.len y
  have n:(i+1)*E.default.size<=xs.length*E.default.size:=aD _ hi
  rw [aY,cO] at n
  have a:(h.without b).put b (.cells (xs.flatMap enc++ex).toArray e)=h:=J3 (s.own b _ p)
  unfold aO
  simp only [C8,Instr.sureAddr,H0,storeVar,J1 f,C,hv,List.size_toArray,m,ne_eq,not_true_eq_false,if_false]
  rw [D6,aH,<- a]
  refine G7 (enc y) (i*E.default.size) 0 _ (by rw [aT,K4,m];omega) (E.default.one y) ?_
  have l:H8 (xs.flatMap enc++ex) (i*E.default.size+0) (enc y)=(xs.set i y).flatMap enc++ex:=by
   rw [cK,<- Wt xs hi]
   unfold H8
   rw [cQ (by rw [K4];omega),List.drop_append_of_le_length (by rw [K4,m];omega),bV,bV,bV]
  rw [l]
  have q:(h.without b).put b (.cells ((xs.set i y).flatMap enc++ex).toArray e)=h.put b (.cells ((xs.set i y).flatMap enc++ex).toArray e):=by
   rw [<- a,Cm,a]
  rw [q]
  refine x _ _ (s.upd p _) ⟨by simpa using w.1,.inr ⟨b,(xs.set i y).flatMap enc++ex,hA,C2 _ _ _,?_,?_⟩⟩ (fun k z=>B7 _ _ z)
  ·rw [aT,K4] at r ⊢
   grind
  ·rw [cQ (by rw [K4];omega),cF (by rw [K4];omega)]
end
section
variable {h g:aE} {K:VP} {A:Option aG} {n c cols:Nat}
def A9s(h:aE)(v:aP)(A:Option aG)(n c cols:Nat):Prop:=∃ f0 f1:aG,v= .func (.func 251) #[] #[.pointer (some f0),.pointer (some f1)]/\h.cell? f0=some (.slice A n c)/\h.cell? f1=some (I (cols:Int))
def Us(hc:1<=cols)(hK:∀ v h',h.le h'->A9s h' v A n c cols->K v h'):aJ prog 198 #[.slice A n c,I (cols:Int)] h K:=by
 refine (fnk func198) ?_
 refine Ob ?_
 intro b f
 refine ⟨_,rfl,Ob ?_⟩
 intro d a
 have c1:Heap.cell? ((h.put b (.cells (bG (.slice A n c)) 232)).put d (.cells (bG (I (cols:Int))) 3)) ⟨d,0,none⟩=some (I (cols:Int)):=by rw [D4];rfl
 refine ⟨_,rfl,_,c1,C0 (fun e=>o) (fun _=>hK _ _ (B0 (Heap.le_put _ f) (Heap.le_put _ a)) ⟨⟨b,0,none⟩,⟨d,0,none⟩,rfl,?_,c1⟩)⟩
 refine C1 (Heap.le_put _ a) ?_
 rw [D4];rfl
def Qt{g0:aE}{v:aP}{rows:Nat}(ic:A9s g0 v A (rows*cols) c cols)(hc:1<=cols)(hn:rows*cols<=1000000000)(hcap:rows*cols<=c){B:List aP->aE->(aE->Prop)->Prop}{K:aE->Prop}(J:Nat->aE->Prop)(h0:J 0 h)(hle:∀ k h,J k h->g0.le h)
 (hB:∀ k h1,k<rows->J k h1->B [.slice (T9 A ((k+1)*cols) (k*cols) 4) cols cols] h1 (J (k+1))) (hK:∀ h1,J rows h1->K h1):A4p prog v h B K:=by
 obtain ⟨m,p,rfl,z,w⟩:=ic
 refine ⟨251,#[],#[.pointer (some m),.pointer (some p)],rfl,Xn,?_⟩
 intro l rec H a
 show aJ _ _ #[.func (.yield l) #[] #[],.pointer (some m),.pointer (some p)] _ _
 refine (fnk func251 [(1,[4],[],[I 0])]) ?_
 refine ⟨fun L t=>∃ (k:Nat) (h1:aE),k<=rows/\L=[I ((k*cols:Nat):Int)]/\h1 l=none/\t=h1.put l (.loop rec)/\J k h1,fun L _=>rows*cols-(iAt L 0).toNat,⟨0,h,o,by simp,H,rfl,h0⟩,?_⟩
 rintro i t ⟨k,h1,O,R,f,rfl,u⟩
 obtain rfl:i=((k*cols:Nat):Int):=gz0
 have n:=B0 (hle k h1 u) (Heap.le_put (.loop rec) f)
 have j:=C1 n z
 have E:=C1 n w
 refine ⟨_,_,_,j,C0 (fun D=>?_) (fun y=>?_)⟩
 ·have d:k<rows:=by
   grind
  have N:(k+1)*cols<=rows*cols:=aD _ d
  have S:(k+1)*cols=k*cols+cols:=gz0
  have G:(if ((rows*cols-(((k*cols:Nat):Int)).toNat:Nat):Int)<(cols:Int) then ((rows*cols-(((k*cols:Nat):Int)).toNat:Nat):Int) else (cols:Int))=(cols:Int):=by
   omega
  have q:C3 (((k*cols:Nat):Int)+(cols:Int))=(((k+1)*cols:Nat):Int):=by rw [B9]<;>omega
  refine ⟨_,E,_,_,_,j,⟨o,o⟩,_,_,_,j,?_⟩
  rw [G,q]
  simp only [bJ]
  have C:(k+1)*cols-k*cols=cols:=o
  rw [C]
  refine ⟨⟨o,o⟩,⟨o,o⟩,⟨o,o⟩,?_⟩
  refine (a _ h1 (J (k+1)) f (hB k h1 d u)).mono ?_
  rintro r Q ⟨rfl,s,e,rfl,b⟩
  refine ⟨_,rfl,?_⟩
  show ∃ (t11:Int),_
  have g:=B0 (hle _ s b) (Heap.le_put (.loop rec) e)
  refine ⟨_,C1 g w,?_⟩
  rw [q]
  exact ⟨⟨k+1,s,o,rfl,e,rfl,b⟩,by simp only [Y2];omega⟩
 ·have F:k=rows:=by
   by_cases M:k=rows
   ·exact M
   ·exfalso
    have:(k+1)*cols<=rows*cols:=aD _ o
    grind
  grind
end
section
variable {α:Type} [E:Enc α]
def Su{P:cI}{t e:aK}{z:aP}{bytes:Nat}(st:cH P t e z E.default.size bytes){h g o:aE}{A:Option aG}{c:Nat}{xs:List α}(s:Sep h g o)(w:OwnSl o e A c xs){v:aP}{y:α}(hv:v.cells=(enc y).toArray)(hsz:E.default.size<=1000)
 (hb:(2*(xs.length+1)+192)*bytes<=281474976710656) (hn:xs.length+1<=9223372036854775807) {K:VP}
 (x0:∀ B m d hp,h.le hp->(∀ {ty:aK} {K2:VP},(∀ A' c' h' g' o',g.le g'->Sep h' g' o'->OwnSl o' e A' c' (xs++[y])->(∀ k u,o k=some u->A≠some ⟨k,0,none⟩->o' k=some u/\A'≠some ⟨k,0,none⟩)->K2 (.slice A' (xs.length+1) c') h')->wpH P (bF #[t,t] ty #[.slice A xs.length c,.slice B m d]) K2 hp)->K (.slice B m d) hp):
 wpH P (bM t 1 #[(0,v)]) K h:=by
 obtain ⟨T,p,M⟩:=w.priv s
 refine Z6 st (vs:=[v]) (fun u hu=>by rw [List.mem_singleton.1 hu,hv];simp [E.default.len]) rfl gz0 rfl ?_
 intro b f
 have L:[v].flatMap (fun v=>v.cells.toList)=[y].flatMap enc:=by simp [hv]
 rw [L]
 refine x0 _ _ _ _ (Heap.le_put _ f) (fun {ty K2} x=>?_)
 have p':PrivF (h.put b (.cells ([y].flatMap enc).toArray e)) (T.put b (.cells ([y].flatMap enc).toArray e)) e A c xs:=Priv.put p f _
 refine Hs st p' (ys:=[y]) rfl (A2z e h b [y]) hb hn ?_
 intro A' c' h' g' W hp
 rw [aT]
 have q:∀ k u,h k=some u->A≠some ⟨k,0,none⟩->g' k=some u:=by
  intro k u a R
  have j:k≠b:=gz0
  exact W k u (by rw [B7 _ _ j];grind)
 have H:∀ k u,g k=some u->A≠some ⟨k,0,none⟩:=by
  intro k u a r
  rcases w.2 with ⟨_,h0⟩|⟨n,l,i,C,_⟩
  ·grind
  ·rw [r] at i
   simp only [aM,aU,and_true] at i
   subst i
   rw [s.dis k _ C] at a;cases a
 rcases hp.2.2 with ⟨S,_⟩|⟨n,l,i,C,D,ha,V⟩
 ·exfalso
  have:=hp.2.1
  grind
 ·subst i
  let o':aE:=fun k=>if k=n then some (.cells (bI l) e) else if A=some ⟨k,0,none⟩ then none else o k
  have O:o' n=some (.cells (bI l) e):=gz0
  have ok:∀ k,k≠n->A≠some ⟨k,0,none⟩->o' k=o k:=fun k Q G=>by grind
  let g2:aE:=fun k=>match o' k with|some _=>none|none=>h' k
  have gs:∀ k u,o' k=some u->g2 k=none:=fun k u a=>by grind
  have gn:∀ k,o' k=none->g2 k=h' k:=fun k a=>by grind
  have F:∀ k u,k≠n->g' k=some u->h' k=some u:=fun k u Q a=>by rw [D,B7 _ _ Q];exact a
  have N:∀ k u,o k=some u->A≠some ⟨k,0,none⟩->k≠n:=by
   rintro k u a G rfl
   have:=q k u (s.own k u a) G
   grind
  refine x _ c' h' g2 o' (fun k u a=>?_) ⟨fun k u a=>?_,fun k a=>(gn k a).symm,gs⟩ ⟨hp.2.1,.inr ⟨n,l,rfl,O,ha,V⟩⟩ (fun k u a G=>?_)
  ·have X:o k=none:=by
    cases ho:o k with
    | none=>rfl
    | some y=>rw [s.dis k y ho] at a;cases a
   have r:=H k u a
   have e3:=q k u (s.le k u a) r
   grind
  ·by_cases j:k=n
   ·subst j
    rw [O] at a;cases a
    rw [D,C2]
   ·by_cases r:A=some ⟨k,0,none⟩
    ·grind
    ·rw [ok k j r] at a
     exact F k u j (q k u (s.own k u a) r)
  grind
end
def Xl{P:cI}{t:aK}(one:P.cellsOf t=1/\(P.info? t).isSome=true){v:aP}(hv:Mj v=true)(hc:v.cells=#[v]){h g o:aE}(s:Sep h g o){b:Nat}{cs:Array aP}{e:aK}(hb:o b=some (.cells cs e)){i:Nat}(hi:i<cs.size){K:Unit->aE->Prop}
 (x:∀ h' o',Sep h' g o'->o'=o.put b (.cells (cs.setIfInBounds i v) e)->K () h'):wpH P (aO t (.pointer (some (aC ⟨b,0,none⟩ i))) v) K h:=by
 rw [D6,aH]
 have a:h.put b (.cells cs e)=h:=Mi (s.own b _ hb)
 rw [<- a]
 refine Z5 one.1 one.2 hv hc hi ?_
 exact x _ _ (s.upd hb _) rfl
structure NT (o:aE) (bp bt cols:Nat) (es:List IV) (ss:List QV) (A:Option aG) (c:Nat) (A':Option aG) (c':Nat):Prop where
 hp:∃ e,o bp=some (.cells #[.pointer (some ⟨bt,0,none⟩)] e)
 ht:∃ e,o bt=some (.cells #[I (cols:Int),.slice A es.length c,.slice A' ss.length c'] e)
 oe:OwnSl o 219 A c es
 os:OwnSl o 244 A' c' ss
 ne:bp≠bt
 a1:A≠some ⟨bp,0,none⟩/\A≠some ⟨bt,0,none⟩
 a2:A'≠some ⟨bp,0,none⟩/\A'≠some ⟨bt,0,none⟩
 a3:∀ b,A=some ⟨b,0,none⟩->A'≠some ⟨b,0,none⟩
section
variable {h g o:aE} {bp bt cols:Nat} {es:List IV} {ss:List QV} {A A':Option aG} {c c':Nat}
def NT.cp(n:NT o bp bt cols es ss A c A' c')(s:Sep h g o):h.cell? ⟨bp,0,none⟩=some (.pointer (some ⟨bt,0,none⟩)):=by
 obtain ⟨e,a⟩:=n.hp
 refine s.cell ?_
 unfold Heap.cell?;grind
def NT.c1(n:NT o bp bt cols es ss A c A' c')(s:Sep h g o):h.cell? (aC ⟨bt,0,none⟩ 1)=some (.slice A es.length c):=by
 obtain ⟨e,a⟩:=n.ht
 refine s.cell ?_
 rw [D6];unfold Heap.cell?;grind
def NT.c2(n:NT o bp bt cols es ss A c A' c')(s:Sep h g o):h.cell? (aC ⟨bt,0,none⟩ 2)=some (.slice A' ss.length c'):=by
 obtain ⟨e,a⟩:=n.ht
 refine s.cell ?_
 rw [D6];unfold Heap.cell?;grind
def B0l:prog.cellsOf 285=1/\(prog.info? 285).isSome=true:=by constructor<;>kernel_rfl
def B0k:prog.cellsOf 232=1/\(prog.info? 232).isSome=true:=by constructor<;>kernel_rfl
def NT.buildE(n:NT o bp bt cols es ss A c A' c')(s:Sep h g o)(w:IV)(hl:es.length<=100000000){F:aE->Prop}(hF:∀ h' g' o' A2 c2,g.le g'->Sep h' g' o'->NT o' bp bt cols (es++[w]) ss A2 c2 A' c'->F h'){K:VP}
 (x:∀ B m d hp,h.le hp->hp.cell? ⟨bp,0,none⟩=some (.pointer (some ⟨bt,0,none⟩))->(∀ {K2:VP},(∀ A2 c2 h2,h2.cell? ⟨bp,0,none⟩=some (.pointer (some ⟨bt,0,none⟩))->wpH prog (aO 285 (.pointer (some (aC ⟨bt,0,none⟩ 1))) (.slice A2 (es.length+1) c2)) (fun _ h3=>F h3) h2->K2 (.slice A2 (es.length+1) c2) h2)->wpH prog (bF #[285,285] 285 #[.slice A es.length c,.slice B m d]) K2 hp)->K (.slice B m d) hp):
 wpH prog (bM 285 1 #[(0,w.v)]) K h:=by
 refine Su tZs s n.oe (y:=w) rfl dc oo oo ?_
 intro B m d hp C f
 refine x B m d hp C (C1 C (n.cp s)) (fun {K2} q=>f ?_)
 intro A2 c2 h2 N D M z Q keep
 obtain ⟨T,t⟩:=n.hp
 obtain ⟨O,r⟩:=n.ht
 have L:=keep bp _ t n.a1.1
 have H:=keep bt _ r n.a1.2
 refine q A2 c2 h2 ?_ ?_
 ·refine z.cell ?_
  unfold Heap.cell?;grind
 ·refine Xl B0l rfl rfl z H.1 (by simp) ?_
  intro h3 E S G
  have ko:∀ k,k≠bt->E k=D k:=fun k q=>by rw [G,B7 _ _ q]
  refine hF h3 N E A2 c2 M S ⟨⟨T,gz0⟩,⟨O,by rw [G,C2];simp⟩,Q.keep fun b y i l=>gz0,?_,n.ne,⟨L.2,H.2⟩,n.a2,?_⟩
  ·refine (n.os.keep (o':=D) fun b y i l=>(keep b y l (fun e=>n.a3 b e i)).1).keep fun b y i l=>by rw [ko b (fun e=>n.a2.2 gz0)];exact l
  ·intro b i a
   rcases n.os.2 with ⟨_,V⟩|⟨u,R,j,p,_⟩
   ·grind
   ·rw [j] at a
    simp only [aM,aU,and_true] at a
    subst a
    exact (keep u _ p (fun e=>n.a3 u e j)).2 i
def NT.buildS(n:NT o bp bt cols es ss A c A' c')(s:Sep h g o)(w:QV)(hl:ss.length<=100000000){F:aE->Prop}(hF:∀ h' g' o' A2 c2,g.le g'->Sep h' g' o'->NT o' bp bt cols es (ss++[w]) A c A2 c2->F h'){K:VP}
 (x:∀ B m d hp,h.le hp->hp.cell? ⟨bp,0,none⟩=some (.pointer (some ⟨bt,0,none⟩))->(∀ {K2:VP},(∀ A2 c2 h2,h2.cell? ⟨bp,0,none⟩=some (.pointer (some ⟨bt,0,none⟩))->wpH prog (aO 232 (.pointer (some (aC ⟨bt,0,none⟩ 2))) (.slice A2 (ss.length+1) c2)) (fun _ h3=>F h3) h2->K2 (.slice A2 (ss.length+1) c2) h2)->wpH prog (bF #[232,232] 232 #[.slice A' ss.length c',.slice B m d]) K2 hp)->K (.slice B m d) hp):
 wpH prog (bM 232 1 #[(0,w.v)]) K h:=by
 refine Su Xq s n.os (y:=w) rfl dc oo oo ?_
 intro B m d hp u f
 refine x B m d hp u (C1 u (n.cp s)) (fun {K2} l=>f ?_)
 intro A2 c2 h2 M z L t O keep
 obtain ⟨S,q⟩:=n.hp
 obtain ⟨N,p⟩:=n.ht
 have H:=keep bp _ q n.a2.1
 have G:=keep bt _ p n.a2.2
 refine l A2 c2 h2 ?_ ?_
 ·refine t.cell ?_
  unfold Heap.cell?;grind
 ·refine Xl B0k rfl rfl t G.1 (by simp) ?_
  intro h3 D R E
  have ko:∀ k,k≠bt->D k=z k:=fun k l=>by rw [E,B7 _ _ l]
  refine hF h3 M D A2 c2 L R ⟨⟨S,gz0⟩,⟨N,by rw [E,C2];simp⟩,?_,O.keep fun b y a i=>gz0,n.ne,n.a1,⟨H.2,G.2⟩,?_⟩
  ·refine (n.oe.keep (o':=z) fun b y a i=>(keep b y i (fun e=>n.a3 b a e)).1).keep fun b y a i=>by rw [ko b (fun e=>n.a1.2 gz0)];exact i
  ·intro b a
   rcases n.oe.2 with ⟨_,T⟩|⟨r,Q,C,j,_⟩
   ·grind
   ·rw [C] at a
    simp only [aM,aU,and_true] at a
    subst a
    exact (keep r _ j (fun e=>n.a3 r C e)).2
end
def A1v(E:Nat->Rat)(cols i:Nat):Nat->Rat:=fun j=>E (i*cols+j)
def B0u(E:Nat->Rat)(cols i j:Nat):Int:=scl (A1v E cols i j) (Bu (A1v E cols i) cols:Int)
def A9z(E:Nat->Rat)(cols i:Nat):Nat->Nat
 | 0=>0
 | j+1=>cX (A9z E cols i j:Int) (B0u E cols i j)
def A0m(E:Nat->Rat)(cols i:Nat):Nat:=if A9z E cols i cols=0 then 1 else A9z E cols i cols
def A1o(E:Nat->Rat)(cols i j:Nat):Int:=(B0u E cols i j).tdiv (A0m E cols i:Int)
def Sw(E:Nat->Rat)(cols i:Nat):Rat:=aS (Bu (A1v E cols i) cols:Int) (A0m E cols i:Int)
def B1i(E:Nat->Rat)(cols i:Nat):∀ n j,j<n->(A9z E cols i n:Int)∣B0u E cols i j:=by
 intro n
 induction n with
 | zero=>omega
 | succ n ih=>
  intro j a
  by_cases e:j=n
  ·subst e;exact Int.gcd_dvd_right _ _
  ·exact Int.dvd_trans (Int.gcd_dvd_left _ _) (ih j o)
def Pz(E:Nat->Rat)(cols i:Nat):0<A0m E cols i:=by unfold A0m;grind
def B1w(E:Nat->Rat)(cols i:Nat){j:Nat}(hj:j<cols):(A0m E cols i:Int)∣B0u E cols i j:=by
 unfold A0m
 split
 ·omega
 ·exact B1i E cols i cols j hj
def B3q(E:Nat->Rat)(cols i:Nat){j:Nat}(hj:j<cols):(A1o E cols i j:Rat)=Sw E cols i*E (i*cols+j):=by
 have d:=Pz E cols i
 have a:((A0m E cols i:Nat):Int)≠0:=o
 have c:((A1o E cols i j:Int):Rat)*((A0m E cols i:Nat):Int)=E (i*cols+j)*((Bu (A1v E cols i) cols:Nat):Int):=by
  rw [<- aN]
  unfold A1o
  rw [Int.tdiv_mul_cancel (B1w E cols i hj)]
  exact A75 (by
   have:=Wm (A1v E cols i) cols j hj
   exact Int.natCast_dvd_natCast.2 this)
 have b:=O9 a
 unfold Sw
 rw [bH]
 grind
def Pq(E:Nat->Rat)(cols i:Nat):0<Sw E cols i:=by
 unfold Sw
 rw [bH]
 have a:(0:Rat)<((Bu (A1v E cols i) cols:Nat):Int):=by
  have:=Wl (A1v E cols i) cols
  exact_mod_cast this
 have b:(0:Rat)<((A0m E cols i:Nat):Int):=by
  have:=Pz E cols i
  exact_mod_cast this
 exact Rat.mul_pos a (Rat.inv_pos.2 b)
def ZB.gcd2{k:Nat}{x y:Int}(hx:ZB k x)(hy:ZB k y):ZB k (cX x y:Int):=by
 by_cases h:y=0
 ·subst h
  rw [Int.gcd_zero_right]
  assumption
 ·exact ZB.gcd h hy
section
variable {E:Nat->Rat} {cols i m:Nat}
def Vu(h:∀ j,j<cols->Sz m (E (i*cols+j))){j:Nat}(hj:j<cols):ZB (1+cols*m+m) (B0u E cols i j):=by
 have:=A74 (h j hj) (Jc (f:=A1v E cols i) cols h)
 exact this.mono o
def A8l(h:∀ j,j<cols->Sz m (E (i*cols+j))):∀ j,j<=cols->ZB (1+cols*m+m) (A9z E cols i j:Int):=by
 intro j
 induction j with
 | zero=>intro _;exact ZB.zero
 | succ j ih=>intro a;exact (ih o).gcd2 (Vu h o)
def Xe(h:∀ j,j<cols->Sz m (E (i*cols+j))):ZB (1+cols*m+m) (A0m E cols i:Int):=by
 unfold A0m
 split
 ·exact ZB.one o
 ·exact A8l h cols (aF _)
def B3p(h:∀ j,j<cols->Sz m (E (i*cols+j))){j:Nat}(hj:j<cols):ZB (1+cols*m+m) (A1o E cols i j):=(Vu h hj).tdiv
def A1n(h:∀ j,j<cols->Sz m (E (i*cols+j))):Sz (1+cols*m+m) (Sw E cols i):=by
 have:=Pz E cols i
 exact S1 o ((Jc (f:=A1v E cols i) cols h).mono o) (Xe h)
end
structure EsOk (g:aE) (E:Nat->Rat) (cols k:Nat) (es:List IV) (V:Nat->Int) (j:Nat):Prop where
 len:es.length=k*cols+j
 rows:∀ a b,a<k->b<cols->∃ w,es[a*cols+b]? = some w/\ZIr g w (A1o E cols a b)
 last:∀ b,b<j->∃ w,es[k*cols+b]? = some w/\ZIr g w (V b)
def EsOk.mono{g g':aE}{E:Nat->Rat}{cols k j:Nat}{es:List IV}{V:Nat->Int}(e:EsOk g E cols k es V j)(l:g.le g'):EsOk g' E cols k es V j:=by
 refine ⟨e.len,fun a b c i=>?_,fun b c=>?_⟩
 ·obtain ⟨w,f,d⟩:=e.rows a b c i;exact ⟨w,f,Cu _ _ _ _ l d⟩
 ·obtain ⟨w,f,d⟩:=e.last b c;exact ⟨w,f,Cu _ _ _ _ l d⟩
def EsOk.push{g:aE}{E:Nat->Rat}{cols k j:Nat}{es:List IV}{V:Nat->Int}(e:EsOk g E cols k es V j){w:IV}(hw:ZIr g w (V j)):EsOk g E cols k (es++[w]) V (j+1):=by
 have l:=e.len
 refine ⟨gz0,fun a b c f=>?_,fun b c=>?_⟩
 ·obtain ⟨u,d,i⟩:=e.rows a b c f
  grind
 ·by_cases m:b=j
  ·grind
  ·obtain ⟨u,d,i⟩:=e.last b o
   grind
def EsOk.set{g:aE}{E:Nat->Rat}{cols k:Nat}{es:List IV}{V:Nat->Int}(e:EsOk g E cols k es V cols){b:Nat}(hb:b<cols){w:IV}{z:Int}(hw:ZIr g w z):EsOk g E cols k (es.set (k*cols+b) w) (fun x=>if x=b then z else V x) cols:=by
 have m:=e.len
 refine ⟨gz0,fun a d c f=>?_,fun d c=>?_⟩
 ·obtain ⟨u,j,l⟩:=e.rows a d c f
  have i:=Q4 c f
  grind
 ·by_cases n:d=b
  ·grind
  ·obtain ⟨u,j,l⟩:=e.last d c
   grind
def EsOk.congr{g:aE}{E:Nat->Rat}{cols k j:Nat}{es:List IV}{V V':Nat->Int}(e:EsOk g E cols k es V j)(h:∀ b,b<j->V b=V' b):EsOk g E cols k es V' j:=
 ⟨e.len,e.rows,fun b a=>by rw [<- h b a];exact e.last b a⟩
def EsOk.next{g:aE}{E:Nat->Rat}{cols k:Nat}{es:List IV}{V:Nat->Int}(e:EsOk g E cols k es V cols)(h:∀ b,b<cols->V b=A1o E cols k b)(V':Nat->Int):EsOk g E cols (k+1) es V' 0:=by
 refine ⟨by rw [e.len,aY,cO];rfl,fun a b d c=>?_,fun b d=>o⟩
 by_cases f:a=k
 ·subst f;rw [<- h b c];exact e.last b c
 ·exact e.rows a b o c
section
variable {h g:aE} {K:VP} {A:Option aG} {n c rows cols m:Nat} {E:Nat->Rat}
def Kq(gl:Gl h)(r:RowV RQr h A (rows*cols) E)(hcap:rows*cols<=c)(hr:1<=rows)(hr2:rows<=10000)(hc:1<=cols)(hc2:cols<=10000)(hs:∀ i,i<rows*cols->Sz m (E i))(hm:1+cols*m+m<=6400000000)
 (hK:∀ h' g' o' T,h.le g'->Tab h' g' o' T (A1o E cols) (Sw E cols)->T.rows=rows->T.cols=cols->K (.pointer (some ⟨T.bt,0,none⟩)) h'):aJ prog 151 #[.slice A (rows*cols) c,I (cols:Int)] h K:=by
 refine (fnk func151 [(8,[31],[(9,2)],[I 0,.bool false,.slice none 0 0]),(17,[62],[],[I 0])] (cs:=[(16,[],[(9,2)],[.bool false,.slice none 0 0])]) (os:=[(12,[1,2,3,4,5,0,6,7,8,9,10]),(21,[1,2,3,4,5,6,0,7,8,9,10,11,12])]) (rs:=[(4,[.slice none 0 0])]) (al:=[(12,[(0,[6,7])]),(21,[(0,[7,8,9])])]) (own:=[7,9,11,12,14]) (wr:=[1000000000])) ?_
 have cl:rows*cols<=100000000:=by
  have:rows*cols<=10000*10000:=aW hr2 hc2
  omega
 refine Ob ?_
 intro bt bi
 refine ⟨_,rfl,Ck (z:=.pointer none) (by kernel_rfl) ?_⟩
 intro V ap
 have au:V≠bt:=by rintro rfl;rw [C2] at ap;cases ap
 refine ⟨_,rfl,?_⟩
 refine Z5 (by kernel_rfl) (by kernel_rfl) rfl rfl dc ?_
 have s0:=((Sep.refl h).new bi (.cells (bG (.agg #[I (cols:Int),.slice none 0 0,.slice none 0 0])) 287)).new ap (.cells ((bG (.pointer none)).setIfInBounds 0 (.pointer (some ⟨bt,0,none⟩))) 236)
 have n0:NT ((Fe.put bt (.cells (bG (.agg #[I (cols:Int),.slice none 0 0,.slice none 0 0])) 287)).put V (.cells ((bG (.pointer none)).setIfInBounds 0 (.pointer (some ⟨bt,0,none⟩))) 236)) V bt cols [] [] none 0 none 0:=
  ⟨⟨_,C2 _ _ _⟩,⟨_,by rw [B7 _ _ au.symm,C2];rfl⟩,OwnSl.nil,OwnSl.nil,au,⟨by simp,by simp⟩,⟨by simp,by simp⟩,fun b hb=>by cases hb⟩
 generalize (Fe.put bt (.cells (bG (.agg #[I (cols:Int),.slice none 0 0,.slice none 0 0])) 287)).put V (.cells ((bG (.pointer none)).setIfInBounds 0 (.pointer (some ⟨bt,0,none⟩))) 236)=o0 at s0 n0
 refine s0.call (Us hc ?_)
 intro v g0 l0 ic cb s3
 have bound:∀ k,k<rows->∀ j,j<cols->Sz m (E (k*cols+j)):=fun k hk j hj=>hs _ (Q4 hk hj)
 refine ⟨_,rfl,Qt ic hc oo hcap (fun k M=>∃ (O o1:aE) (C:List IV) (u:List QV) (A1:Option aG) (c1:Nat) (A2:Option aG) (c2:Nat),g0.le O/\Sep M O o1/\NT o1 V bt cols C u A1 c1 A2 c2/\EsOk O E cols k C (fun _=>0) 0/\u.length=k/\Row RQr O u k (Sw E cols)) ?_ ?_ ?_ ?_⟩
 ·exact ⟨g0,o0,[],[],none,0,none,0,B6 _,s3,n0,⟨by simp,fun a b h1=>oo,fun b h1=>oo⟩,rfl,Row.nil⟩
 ·rintro k M ⟨O,o1,C,u,A1,c1,A2,c2,lg,s1,_⟩
  exact B0 lg s1.le
 ·rintro k cf av ⟨O,o1,C,u,A1,c1,A2,c2,a7,s4,R,e1,aa,rs⟩
  have bk:=bound k av
  have ch:(k+1)*cols<=rows*cols:=aD _ av
  have co:(k+1)*cols=k*cols+cols:=gz0
  have b8:k<=k*cols:=Nat.le_mul_of_pos_right k hc
  have ar:=B0 l0 a7
  have aw:RowV RQr h A ((k+1)*cols) E:=by
   have:=r.cut (c:=c) (l:=0) (k:=(k+1)*cols) oo hcap
   rw [G9] at this
   grind
  have ai:RowV RQr h (T9 A ((k+1)*cols) (k*cols) 4) cols (A1v E cols k):=aw.cut (c:=(k+1)*cols) (l:=k*cols) (k:=cols) oo (aF _)
  refine ⟨_,_,_,rfl,s4.call (Cx (gl.mono ar) (ai.mono G1 ar) oo bk hm ?_)⟩
  intro sd Ad nd cd g2 l2 id cq s5
  have cE:=R.c1 s5
  rw [e1.len,cK] at cE
  have d2:=Jc (f:=A1v E cols k) cols bk
  have an:1+cols*m<=1+cols*m+m:=oo
  refine ⟨_,_,_,_,rfl,_,R.cp s5,_,rfl,_,_,_,cE,fun L M=>∃ (j:Nat) (s:Bool) (B:Option aG) (bn bc:Nat) (W o3:aE) (C:List IV) (A1:Option aG) (c1:Nat),j<=cols/\L=[I (j:Int),.bool s,.slice B bn bc]/\g2.le W/\Sep M W o3/\NT o3 V bt cols C u A1 c1 A2 c2/\EsOk W E cols k C (B0u E cols k) j/\ZI W s B bn bc (A9z E cols k j:Int),
   fun L _=>cols-(iAt L 0).toNat,⟨0,false,none,0,0,g2,o1,C,A1,c1,oo,rfl,B6 _,s5,R,(e1.mono l2).congr (fun b hb=>oo),ZI.zero⟩,?_⟩
  rintro z bs bA bn bc cm ⟨j,sB,B,cj,ca,W,o3,ae,A3,c3,hj,eL,l3,s6,n3,e3,i3⟩
  simp only [cV,Value.int.injEq,Value.bool.injEq,Value.slice.injEq,true_and,and_true] at eL
  obtain ⟨rfl,rfl,rfl,rfl,rfl⟩:=eL
  have b6:C3 ((j:Int)+1)=((j+1:Nat):Int):=by rw [B9]<;>omega
  have af:=B0 ar (B0 l2 l3)
  refine C0 (fun bq=>?_) (fun b4=>?_)
  ·have D:j<cols:=oo
   obtain ⟨a,w,ea,X,q0,q1,q2,q3⟩:=ai.qat D
   have ad:=B0 af s6.le
   refine ⟨a,ea,oo,oo,_,_,_,_,_,_,_,_,C1 ad q0,C1 ad q1,C1 ad q2,C1 ad q3,?_⟩
   refine s6.call (Ir (m:=1+cols*m+m) (G1 _ _ _ _ af X) (id.mono l3) ((bk j D).mono oo) (d2.mono an) hm ?_)
   intro s7 A7 n7 c7 g7 l7 i7 a5 b3
   refine ⟨_,_,_,_,rfl,b3.call (Bf (gl.mono (B0 af l7)).tz (i3.mono l7) i7 (A8l bk j hj) (Vu bk D) hm ?_)⟩
   intro A8 n8 c8 g8 l8 i8 aq G
   have z7:ZIr g8 ⟨s7,A7,n7,c7⟩ (B0u E cols k j):=i7.mono l8
   have hF:∀ h' g' o' A2' F,g8.le g'->Sep h' g' o'->NT o' V bt cols (ae++[⟨s7,A7,n7,c7⟩]) u A2' F A2 c2->(∃ (j':Nat) (s:Bool) (B:Option aG) (bn bc:Nat) (W o3:aE) (C:List IV) (A1:Option aG) (c1:Nat),j'<=cols/\[I (C3 ((j:Int)+1)),.bool false,.slice A8 n8 c8]=[I (j':Int),.bool s,.slice B bn bc]/\g2.le W/\Sep h' W o3/\NT o3 V bt cols C u A1 c1 A2 c2/\EsOk W E cols k C (B0u E cols k) j'/\ZI W s B bn bc (A9z E cols k j':Int))/\cols-(iAt [I (C3 ((j:Int)+1)),.bool false,.slice A8 n8 c8] 0).toNat<cols-(iAt [I (j:Int),.bool bs,.slice bA bn bc] 0).toNat:=by
    intro h' g' o' A2' F H s' n'
    rw [b6]
    refine ⟨⟨j+1,false,A8,n8,c8,g',o',_,A2',F,oo,rfl,B0 l3 (B0 l7 (B0 l8 H)),s',n',((e3.mono (B0 l7 l8)).push z7).mono H,i8.mono H⟩,by simp only [Y2];omega⟩
   have ac:ae.length<=100000000:=by have:=e3.len;omega
   refine ⟨_,_,_,_,rfl,_,n3.cp G,_,rfl,_,_,_,n3.c1 G,⟨_,n3.cp G,?_⟩,?_⟩
   ·exact n3.buildE G ⟨s7,A7,n7,c7⟩ ac hF fun B m d M lp cp n=>⟨_,_,_,rfl,lp,n fun A2 c2 h2 _ q=>⟨_,_,_,rfl,_,rfl,q⟩⟩
   ·exact n3.buildE G ⟨s7,A7,n7,c7⟩ ac hF fun B m d M lp cp n=>⟨_,_,_,rfl,lp,⟨_,cp,n fun A2 c2 h2 _ q=>⟨_,_,_,rfl,_,rfl,q⟩⟩,n fun A2 c2 h2 ak q=>⟨_,_,_,rfl,_,ak,_,rfl,q⟩⟩
  ·have D:j=cols:=oo
   subst D
   have hg:((A9z E j k j:Nat):Int)=0↔A9z E j k j=0:=oo
   refine ⟨fun L M=>∃ (s:Bool) (B:Option aG) (bn bc:Nat) (g4:aE),L=[.bool s,.slice B bn bc]/\W.le g4/\Sep M g4 o3/\ZI g4 s B bn bc (A0m E j k:Int),?_,?_⟩
   ·refine s6.call (F5 i3 ?_)
    intro a5 s7
    refine ⟨_,rfl,C0 (fun e=>?_) (fun e=>?_)⟩
    ·refine s7.call (Dd oo oo ?_)
     intro S A8 n8 c8 g8 l8 i8 aq G
     refine ⟨_,_,_,_,rfl,_,_,_,_,g8,rfl,l8,G,?_⟩
     have:A0m E j k=1:=by unfold A0m;grind
     grind
    ·refine ⟨_,_,_,_,W,rfl,B6 _,s7,?_⟩
     have:A0m E j k=A9z E j k j:=by unfold A0m;grind
     grind
   ·rintro cs cA cn cc a5 ⟨bl,b5,bv,bx,g4,eL,l4,s7,ic⟩
    obtain ⟨rfl,rfl,rfl,rfl⟩:cs=bl/\cA=b5/\cn=bv/\cc=bx:=gz0
    have e4:=e3.mono l4
    have a9:=n3.c1 s7
    rw [e4.len] at a9
    have ay:ae≠[]:=by rintro rfl;have:=e4.len;grind
    obtain ⟨N,ao,rB⟩:=n3.oe.rowB ay
    subst ao
    have ck:k*j+j<=c3:=by have:=n3.oe.1;rw [e4.len] at this;exact this
    have bg:(((k*j:Nat):Int)).toNat=k*j:=rfl
    have ba:T9 (some ⟨N,0,none⟩) c3 ((((k*j:Nat):Int)).toNat) 2=some ⟨N,k*j*2,none⟩:=by rw [bg,Lr oo,D6,aH]
    have ax:k*j+j-(((k*j:Nat):Int)).toNat=j:=oo
    refine ⟨_,n3.cp s7,_,rfl,_,_,_,a9,⟨oo,oo⟩,?_⟩
    rw [ba,ax]
    refine ⟨fun L M=>∃ (p:Nat) (g o:aE) (C:List IV),p<=j/\L=[I (p:Int)]/\g4.le g/\Sep M g o/\NT o V bt j C u (some ⟨N,0,none⟩) c3 A2 c2/\EsOk g E j k C (fun b=>if b<p then A1o E j k b else B0u E j k b) j,fun L _=>j-(iAt L 0).toNat,⟨0,g4,o3,ae,oo,rfl,B6 _,s7,n3,e4.congr fun b hb=>oo⟩,?_⟩
    rintro z aq ⟨p,g5,o5,Q,ci,eL,l5,S,t,e5⟩
    obtain rfl:z=(p:Int):=gz0
    have be:C3 ((p:Int)+1)=((p+1:Nat):Int):=by rw [B9]<;>omega
    have bh:C3 (((k*j:Nat):Int)+(p:Int))=((k*j+p:Nat):Int):=by rw [B9]<;>omega
    have a8:=t.c1 S
    rw [e5.len] at a8
    have bz:=Pz E j k
    refine C0 (fun bq=>?_) (fun b4=>?_)
    ·have D:p<j:=oo
     obtain ⟨w,ew,X⟩:=e5.last p D
     rw [iN (bX p)] at X
     obtain ⟨cg,aj,bo⟩:=t.oe.rowB gz0
     simp only [aM,aU,and_true] at aj
     subst aj
     have ah:k*j+p<Q.length:=gz0
     have ce:Q[k*j+p]=w:=by
      grind
     have ha:k*j*2+p*2=(k*j+p)*2:=by rw [aY]
     have cell:∀ x v,(enc w)[x]? = some v->aq.cell? (aC (aC ⟨N,k*j*2,none⟩ (((p:Int)).toNat*2)) x)=some v:=by
      intro x v hx
      refine S.cell ?_
      rw [D6,D6]
      show o5.cell? ⟨N,k*j*2+p*2+x,none⟩=_
      rw [ha]
      exact bo.cell ah gz0
     refine ⟨_,rfl,oo,oo,_,_,_,_,cell 0 _ rfl,cell 1 _ rfl,_,t.cp S,_,rfl,_,_,_,a8,?_⟩
     refine S.call (Q8 X (ic.mono l5) (Vu bk D) (Xe bk) hm oo ?_)
     intro s9 A9 n9 c9 g9 l9 i9 a6 a4
     refine ⟨_,_,_,_,rfl,S.le_le a4 l9,_,rfl,oo,oo,?_⟩
     rw [bh]
     refine OwnSl.store Qi (y:=(⟨s9,A9,n9,c9⟩:IV)) rfl a4 t.oe ah rfl ?_
     intro b9 br bm a0 ko
     obtain ⟨x1,cr⟩:=t.hp
     obtain ⟨x2,bf⟩:=t.ht
     have b1:V≠N:=fun e=>t.a1.1 (by rw [e])
     have b2:bt≠N:=fun e=>t.a1.2 (by rw [e])
     rw [be]
     refine ⟨⟨p+1,g9,br,Q.set (k*j+p) ⟨s9,A9,n9,c9⟩,oo,rfl,B0 l5 l9,bm,⟨⟨x1,gz0⟩,⟨x2,gz0⟩,a0,t.os.keep fun b x hb hx=>by rw [ko b (fun e=>t.a3 N rfl gz0)];exact hx,t.ne,t.a1,t.a2,t.a3⟩,((e5.mono l9).set D (show ZIr g9 ⟨s9,A9,n9,c9⟩ (A1o E j k p) from i9)).congr fun b hb=>?_⟩,by simp only [Y2];omega⟩
     grind
    ·have bw:p=j:=oo
     subst bw
     have eN:EsOk g5 E p (k+1) Q (fun _=>0) 0:=e5.next (fun b hb=>oo) _
     have sS:=A1n (E:=E) (cols:=p) (i:=k) bk
     have fr:∀ (gg:aE) (w:QV),g5.le gg->RQ gg w (aS (Bu (A1v E p k) p:Int) (A0m E p k:Int))->∀ h' g' o' A2' F,gg.le g'->Sep h' g' o'->NT o' V bt p Q (u++[w]) (some ⟨N,0,none⟩) c3 A2' F->∃ (O o1:aE) (C:List IV) (u:List QV) (A1:Option aG) (c1:Nat) (A2:Option aG) (c2:Nat),g0.le O/\Sep h' O o1/\NT o1 V bt p C u A1 c1 A2 c2/\EsOk O E p (k+1) C (fun _=>0) 0/\u.length=k+1/\Row RQr O u (k+1) (Sw E p):=by
      intro gg w az X h' g' o' A2' F H s' n'
      have ag:O.le g':=B0 l2 (B0 l3 (B0 l4 (B0 l5 (B0 az H))))
      refine ⟨g',o',Q,u++[w],_,c3,A2',F,B0 a7 ag,s',n',eN.mono (B0 az H),gz0,?_⟩
      have bj:Row RQr g' u u.length (Sw E p):=by rw [aa];exact rs.mono G1 ag
      have:=bj.push (w:=w) (by rw [aa];exact G1 _ _ _ _ H X)
      grind
     have bd:=(gl.mono (B0 af (B0 l4 l5))).tz
     have bb:=(id.mono (B0 l3 (B0 l4 l5)))
     have am:u.length<=100000000:=oo
     refine ⟨_,t.cp S,_,rfl,_,_,_,t.c2 S,⟨_,t.cp S,?_⟩,?_⟩
     ·refine S.call (O2 bd bb (ic.mono l5) (d2.mono an) (Xe bk) hm ?_)
      intro w gf lf X a6 s9
      refine ⟨_,_,_,_,_,_,_,_,rfl,S.le_le s9 lf,?_⟩
      exact t.buildS s9 w am (fr gf w lf X) fun B m d M lp cp n=>⟨_,_,_,rfl,lp,n fun A2 c2 h2 _ q=>⟨_,_,_,rfl,_,rfl,q⟩⟩
     ·refine S.call (O2 bd bb (ic.mono l5) (d2.mono an) (Xe bk) hm ?_)
      intro w gf lf X a6 s9
      refine ⟨_,_,_,_,_,_,_,_,rfl,S.le_le s9 lf,⟨_,t.cp s9,?_⟩,?_⟩
      ·exact t.buildS s9 w am (fr gf w lf X) fun B m d M lp cp n=>⟨_,_,_,rfl,lp,n fun A2 c2 h2 _ q=>⟨_,_,_,rfl,_,rfl,q⟩⟩
      ·exact t.buildS s9 w am (fr gf w lf X) fun B m d M lp cp n=>⟨_,_,_,rfl,lp,⟨_,cp,n fun A2 c2 h2 _ q=>⟨_,_,_,rfl,_,rfl,q⟩⟩,n fun A2 c2 h2 ak q=>⟨_,_,_,rfl,_,ak,_,rfl,q⟩⟩
 ·rintro M ⟨O,o1,C,u,A1,c1,A2,c2,lg,s1,R,e1,aa,rs⟩
  refine ⟨_,R.cp s1,?_⟩
  have ac:C.length=rows*cols:=by rw [e1.len];rfl
  have b7:0<rows*cols:=Nat.mul_pos oo oo
  obtain ⟨N,ao,rE⟩:=R.oe.rowB gz0
  obtain ⟨bS,bu,rS⟩:=R.os.rowB gz0
  subst ao bu
  obtain ⟨x2,bf⟩:=R.ht
  refine hK M O o1 ⟨bt,N,bS,rows,cols,c1,c2⟩ (B0 l0 lg) ⟨s1,fun (e:bt=N)=>R.a1.2 (by rw [<- e]),fun (e:bt=bS)=>R.a2.2 (by rw [<- e]),fun (e:N=bS)=>R.a3 N rfl (by rw [e]),⟨x2,gz0⟩,⟨C,rE,ac,fun i j hi hj=>e1.rows i j hi hj⟩,⟨u,rS,aa,rs⟩,by rw [<- ac];exact R.oe.1,by rw [<- aa];exact R.os.1,⟨hr2,hc2⟩,hc⟩ rfl rfl
end
def B8x(c:Array aP):Prop:=∀ (i:Nat) (n:Int),c[i]? ≠ some (Value.int .u64 n)
def SlI.without{h:aE}{A:Option aG}{xs:List Int}{b:Nat}{c:Array aP}{e:aK}(hb:h b=some (.cells c e))(hc:B8x c)(s:SlI .u64 h A xs):SlI .u64 (h.without b) A xs:=by
 rcases s with s|⟨a,k,f⟩
 ·exact .inl s
 ·by_cases g:xs=[]
  ·subst g;exact SlI.nil
  ·right
   refine ⟨a,k,fun i v l=>?_⟩
   have d:=f i v l
   have j:a.block≠b:=by
    rintro rfl
    obtain ⟨x,g⟩:∃ x,v= .int .u64 x:=by
     grind
    subst g
    unfold Heap.cell? at d
    rw [Sp,hb] at d
    simp only at d
    split at d
    ·cases d
    ·exact hc _ _ d
   unfold Heap.cell? at d ⊢
   rw [Sp] at d ⊢
   unfold Heap.without
   grind
def ZI.without{h:aE}{s:Bool}{A:Option aG}{n c:Nat}{z:Int}{b:Nat}{cs:Array aP}{e:aK}(hb:h b=some (.cells cs e))(hc:B8x cs)(i:ZI h s A n c z):ZI (h.without b) s A n c z:=by
 obtain ⟨a,⟨j,k,f,d⟩,g⟩:=i
 exact ⟨a,⟨j,k,SlI.without hb hc f,d⟩,g⟩
def RQ.without{h:aE}{w:QV}{q:Rat}{b:Nat}{cs:Array aP}{e:aK}(hb:h b=some (.cells cs e))(hc:B8x cs)(i:RQ h w q):RQ (h.without b) w q:=⟨ZI.without hb hc i.num,ZI.without hb hc i.den⟩
def Zk(xs:List QV):B8x (xs.flatMap enc).toArray:=by
 intro i n h
 have e:(xs.flatMap enc)[i]? = some (.int .u64 n):=gz0
 have b:=List.mem_of_getElem? e
 obtain ⟨x,_,d⟩:=List.mem_flatMap.1 b
 have a:(.int .u64 n:aP)∈[.bool x.s,.slice x.A x.n x.c,.bool x.s2,.slice x.A2 x.n2 x.c2]:=d
 grind
def Sep.grab{h g o:aE}(s:Sep h g o){b:Nat}{x:Obj}(hb:g b=some x):Sep h (g.without b) (o.put b x):=by
 refine ⟨fun k y e=>?_,fun k e=>?_,fun k y e=>?_⟩
 ·by_cases a:k=b
  ·subst a
   rw [C2] at e;cases e
   exact s.le k _ hb
  ·rw [B7 _ _ a] at e;exact s.own k y e
 ·by_cases a:k=b
  ·subst a;rw [C2] at e;cases e
  ·rw [B7 _ _ a] at e
   unfold Heap.without
   rw [iN a];exact s.rest k e
 ·by_cases a:k=b
  ·subst a;exact N3 _ _
  ·rw [B7 _ _ a] at e
   unfold Heap.without
   rw [iN a];exact s.dis k y e
def Sv{h g:aE}{b:Nat}(l:h.le g)(hb:h b=none):h.le (g.without b):=fun k x e=>by
 have a:k≠b:=gz0
 unfold Heap.without
 rw [iN a];exact l k x e
def Tab.grab{h g o:aE}{T:Tb}{M:Nat->Nat->Int}{S:Nat->Rat}(t:Tab h g o T M S){b:Nat}{cs:Array aP}{e:aK}(hb:g b=some (.cells cs e))(hc:B8x cs):Tab h (g.without b) (o.put b (.cells cs e)) T M S:=by
 have a:∀ k x,o k=some x->k≠b:=by rintro k x e rfl;rw [t.sep.dis k x e] at hb;cases hb
 refine ⟨t.sep.grab hb,t.n1,t.n2,t.n3,?_,?_,?_,t.cE,t.cS,t.small,t.pos⟩
 ·obtain ⟨e,p⟩:=t.head
  exact ⟨e,by rw [B7 _ _ (a _ _ p)];exact p⟩
 ·obtain ⟨s,⟨f,ex,c⟩,l,d⟩:=t.elems
  refine ⟨s,⟨f,ex,by rw [B7 _ _ (a _ _ c)];exact c⟩,l,fun i j m q=>?_⟩
  obtain ⟨w,e,n⟩:=d i j m q
  exact ⟨w,e,ZI.without hb hc n⟩
 ·obtain ⟨r,⟨f,ex,c⟩,l,d⟩:=t.scales
  refine ⟨r,⟨f,ex,by rw [B7 _ _ (a _ _ c)];exact c⟩,l,fun i m=>?_⟩
  obtain ⟨w,e,n⟩:=d i m
  exact ⟨w,e,RQ.without hb hc n⟩
structure MOk (r c:Int) (n:Nat) (ls:Nat->List UInt8) (rows cols:Nat):Prop where
 er:r=rows
 ec:c=cols
 r1:1<=rows
 r2:rows<=64
 c1:1<=cols
 c2:cols<=64
 len:n=rows*cols
 num:∀ i,i<n->dE (ls i)
def A9m(r c:Int)(n:Nat):Prop:=1<=r/\r<=64/\1<=c/\c<=64/\(n:Int)=r*c
def MOk.of{r c:Int}{n:Nat}{ls:Nat->List UInt8}(s:A9m r c n)(h:∀ i,i<n->dE (ls i)):MOk r c n ls r.toNat c.toNat:=by
 obtain ⟨d,a,f,b,e⟩:=s
 refine ⟨o,o,o,o,o,o,?_,h⟩
 grind
def MOk.shape{r c:Int}{n:Nat}{ls:Nat->List UInt8}{rows cols:Nat}(m:MOk r c n ls rows cols):A9m r c n:=by
 obtain ⟨rfl,rfl,d,a,f,b,e,_⟩:=m
 exact ⟨o,o,o,o,o⟩
abbrev Hy(r c:Int)(A:Option aG)(n cap:Nat):aP:=.agg #[I r,I c,.slice A n cap]
def Mx(r c:Int)(n:Nat)(ls:Nat->List UInt8):Prop:=∃ rows cols,MOk r c n ls rows cols
def B3h{r c:Int}{n:Nat}{ls:Nat->List UInt8}:Mx r c n ls↔A9m r c n/\∀ i,i<n->dE (ls i):=by
 constructor
 ·rintro ⟨a,b,m⟩;exact ⟨m.shape,m.num⟩
 ·rintro ⟨s,h⟩;exact ⟨_,_,MOk.of s h⟩
section
variable {h:aE} {K:VP} {A:Option aG} {n cap m:Nat} {r c:Int} {ls:Nat->List UInt8}
def Wp(hn:n<=1000000000)(hK1:A9m r c n->K (.bool true) h)(hK0:¬ A9m r c n->K (.bool false) h):aJ prog 197 #[Hy r c A n cap] h K:=by
 refine (fnk func197 (own:=[1])) ?_
 refine C0 (fun f=>C0 (fun a=>C0 (fun j=>C0 (fun b=>?_) (fun e=>hK0 fun s=>e s.2.2.2.1)) (fun e=>hK0 fun s=>e s.2.2.1)) (fun e=>hK0 fun s=>e s.2.1)) (fun e=>hK0 fun s=>e s.1)
 have i:r*c<=64*64:=Int.mul_le_mul a b o o
 have d:0<=r*c:=Int.mul_nonneg o o
 have g:C3 (r*c)=r*c:=B9 o o
 rw [g]
 by_cases e:(n:Int)=r*c
 ·rw [show ((n:Int)==r*c)=true from gz0]
  exact hK1 ⟨f,a,j,b,e⟩
 ·rw [show ((n:Int)==r*c)=false from gz0]
  exact hK0 fun s=>e s.2.2.2.2
def U3(gl:Gl h)(rv':RowV SSr h A n ls)(hn:n<=1000000)(hl:LL n ls)
 (hK1:∀ rows cols,MOk r c n ls rows cols->∀ b h',Own RQr h h' b n (fun i=>rv (ls i))->K (.tuple #[.slice (some ⟨b,0,none⟩) n n,.bool true]) h')
 (hK0:¬ Mx r c n ls->∀ h',h.le h'->K (.tuple #[.slice none 0 0,.bool false]) h'):aJ prog 150 #[Hy r c A n cap] h K:=by
 refine (fnk func150 (own:=[1])) ?_
 refine Wp o (fun s=>⟨_,rfl,?_⟩) (fun s=>⟨_,rfl,hK0 (fun x=>s (B3h.1 x).1) h (B6 _)⟩)
 refine Cb gl rv' hn hl (fun a b h' w=>⟨_,_,_,_,rfl,hK1 _ _ (MOk.of s a) b h' w⟩) (fun d h' l=>⟨_,_,_,_,rfl,hK0 (fun x=>d (B3h.1 x).2) h' l⟩)
def Jb{f:Nat->Rat}(gl:Gl h)(rq:RowV RQr h A n f)(hn:n<=1000000)(hs:∀ i,i<n->Sz m (f i))(hm:m<=40000000)
 (hK:∀ b h',Own SSr h h' b n (fun i=>E7 (f i))->K (Hy r c (some ⟨b,0,none⟩) n n) h'):aJ prog 194 #[I r,I c,.slice A n cap] h K:=by
 refine (fnk func194 (own:=[6])) ?_
 exact U2 gl rq hn hs hm fun b h' w=>⟨_,_,_,rfl,hK b h' w⟩
end
end Go.Proofs.YtkfhdoblhajcbaaGreatDoor
namespace Go.Proofs.YtkfhdoblhajcbaaGreatDoor
set_option maxRecDepth 20000
def ZrE(n c:Nat)(s:ES):Prop:=∀ i j,i<n->s.cs.length<=i->j<c->s.R i j=0
def A51(n c:Nat)(s:ES)(h:s.cs.length<=n):s.cs.length<=Iu n c s/\Iu n c s<=n/\(Iu n c s<n->s.R (Iu n c s) c≠0)/\(∀ i,s.cs.length<=i->i<Iu n c s->s.R i c=0):=by
 have d:=A48 (fun i=>decide (s.R i c≠0)) (n-s.cs.length) s.cs.length
 have a:=Pv (fun i=>decide (s.R i c≠0)) (n-s.cs.length) s.cs.length
 have b:=Ws (fun i=>decide (s.R i c≠0)) (n-s.cs.length) s.cs.length
 have f:fnd (fun i=>decide (s.R i c≠0)) (n-s.cs.length) s.cs.length=Iu n c s:=rfl
 rw [f] at d a b
 refine ⟨d.1,o,fun j=>?_,fun i g e=>?_⟩
 ·have:=b o;simpa using this
 ·have:=a i g e;simpa using this
def B1q{R:Nat->Nat->Rat}{k c:Nat}(hz:∀ b,b<c->R k b=0):elimE R k c=Ao R k c:=by
 funext a b
 unfold elimE Ao
 by_cases e:a=k
 ·rw [iP e,iP e]
 ·rw [iN e,iN e]
  split
  ·rename_i d
   rcases d with d|d
   ·rw [d];grind
   ·rw [hz b d];grind
  ·rfl
structure EqA (n w c:Nat) (A:Nat->Nat->Rat) (s:ES):Prop where
 len:s.cs.length<=n
 zero:ZrE n c s
 lt:∀ x∈s.cs,x<c
 elim:∃ B,Elim n w B s.R (fun m=>s.cs.getD m 0) s.cs.length/\(∀ i,i<n->∃ i',i'<n/\∀ j,B i' j=A i j)/\(∀ i,i<n->∃ i',i'<n/\∀ j,B i j=A i' j)
 comb:∃ T:Nat->Nat->Rat,∀ i j,i<n->j<w->s.R i j=sm n fun l=>T i l*A l j
def B3k{k l i:Nat}:xch k l (xch k l i)=i:=by unfold xch;repeat' split
                                             all_goals omega
def EqA.start(n w:Nat)(A:Nat->Nat->Rat):EqA n w 0 A ⟨A,[],1⟩:=by
 refine ⟨aQ _,fun i j _ _ d=>o,fun x c=>(by cases c),⟨A,Elim.start,fun i a=>⟨i,a,fun _=>rfl⟩,fun i a=>⟨i,a,fun _=>rfl⟩⟩,⟨fun i l=>if l=i then 1 else 0,fun i j a _=>?_⟩⟩
 show A i j=sm n fun l=>(if l=i then (1:Rat) else 0)*A l j
 rw [U9 a fun l _ b=>by rw [iN b,cJ],iP rfl,Rat.one_mul]
def EqA.step{n w c:Nat}{A:Nat->Nat->Rat}{s:ES}(h:EqA n w c A s)(hc:c<w):EqA n w (c+1) A (Cp n c s):=by
 obtain ⟨L,f2,f3,f4⟩:=A51 n c s h.len
 unfold Cp
 by_cases z:s.cs.length<n
 ·rw [iP z]
  by_cases q:Iu n c s<n
  ·rw [iP q]
   have F:=f3 q
   generalize Iu n c s=r at *
   obtain ⟨B,E,G,M⟩:=h.elim
   obtain ⟨T,O⟩:=h.comb
   have X:∀ b,b<c->s.R r b=0:=fun b H=>h.zero r b q L H
   have C:=Jo s.cs.length r
   have p:∀ i,i<n->xch s.cs.length r i<n:=fun i d=>Hz z q d
   have u:(s.cs++[c]).length=s.cs.length+1:=by simp
   have Q:elimE (fun i=>s.R (xch s.cs.length r i)) s.cs.length c=Ao (fun i=>s.R (xch s.cs.length r i)) s.cs.length c:=B1q fun b H=>by rw [C];exact X b H
   refine ⟨by show (s.cs++[c]).length<=n;omega,fun i j d k y=>?_,fun x a=>?_,⟨fun i=>B (xch s.cs.length r i),?_,fun i d=>?_,fun i d=>?_⟩,?_⟩
   ·show elimE (fun i=>s.R (xch s.cs.length r i)) s.cs.length c i j=0
    have S:s.cs.length+1<=i:=by have:(s.cs++[c]).length<=i:=k;omega
    have D:=A6h (i:=i) L (show s.cs.length<=i from o)
    unfold elimE
    rw [iN o]
    simp only [C]
    by_cases e:j=c
    ·subst e
     split
     ·rename_i t
      rcases t with t|t
      ·exact t
      ·omega
     ·grind
    ·rw [iP (.inr o)]
     exact h.zero _ j (p i d) D o
   ·rcases List.mem_append.1 a with a|a
    ·have:=h.lt x a;omega
    ·simp at a;omega
   ·show Elim n w _ (elimE (fun i=>s.R (xch s.cs.length r i)) s.cs.length c) _ (s.cs++[c]).length
    rw [Q,u]
    refine ((E.swap L q).cs_congr fun m hm=>(Lc s.cs c m hm).symm).step z hc (A03 _ _) ?_
    show s.R (xch s.cs.length r s.cs.length) c≠0
    rw [C];exact F
   ·obtain ⟨N,t,W⟩:=G i d
    exact ⟨xch s.cs.length r N,p N t,fun j=>by show B (xch _ _ (xch _ _ N)) j=_;rw [B3k];exact W j⟩
   ·exact M _ (p i d)
   ·refine ⟨fun i l=>if i=s.cs.length then T r l/s.R r c else T (xch s.cs.length r i) l-s.R (xch s.cs.length r i) c*(T r l/s.R r c),fun i j d y=>?_⟩
    show elimE (fun i=>s.R (xch s.cs.length r i)) s.cs.length c i j=_
    rw [Q]
    unfold Ao
    simp only [C]
    have t1:sm n (fun l=>T r l/s.R r c*A l j)=s.R r j/s.R r c:=by
     rw [O r j q y,cM,aR _ (s.R r c)⁻¹,<- J9]
     exact C4 fun l _=>by rw [cM];grind
    by_cases e:i=s.cs.length
    ·simp only [iP e]
     exact t1.symm
    ·simp only [iN e]
     have V:=O (xch s.cs.length r i) j (p i d) y
     rw [<- t1,V,<- J9]
     have:∀ f g:Nat->Rat,sm n f-sm n g=sm n fun l=>f l-g l:=fun f g=>by
      rw [Rat.sub_eq_add_neg,<- Ke,<- Bi]
      exact C4 fun l _=>(Rat.sub_eq_add_neg _ _).symm
     rw [this]
     exact C4 fun l _=>by grind
  ·rw [iN q]
   refine ⟨h.len,fun i j d k y=>?_,fun x a=>by have:=h.lt x a;omega,h.elim,h.comb⟩
   show s.R i j=0
   by_cases e:j=c
   ·rw [e];exact f4 i k o
   ·exact h.zero i j d k o
 ·rw [iN z]
  exact ⟨h.len,fun i j d k y=>o,fun x a=>by have:=h.lt x a;omega,h.elim,h.comb⟩
def EqA.run{n w:Nat}(A:Nat->Nat->Rat):∀ c,c<=w->EqA n w c A (Ps n ⟨A,[],1⟩ c):=by
 intro c
 induction c with
 | zero=>exact fun _=>EqA.start n w A
 | succ c ih=>exact fun a=>(ih o).step o
def Tu(x:Nat->Rat)(f:Nat->Rat):Nat->List Nat->Nat->Rat
 | _,[]=>x
 | i,c::cs=>Tu (fun j=>if j=c then f i else x j) f (i+1) cs
def A4y(f:Nat->Rat):∀ (cs:List Nat) (x:Nat->Rat) (i j:Nat),j∉cs->Tu x f i cs j=x j:=by
 intro cs
 induction cs with
 | nil=>intros;rfl
 | cons c cs ih=>
  intro x i j a
  rw [Tu,ih _ _ _ fun h=>a (List.mem_cons_of_mem _ h)]
  show (if j=c then f i else x j)=x j
  rw [iN fun e=>a (by rw [e];exact List.mem_cons_self ..)]
def A70(f g:Nat->Rat){w:Nat}{cs:List Nat}(nd:cs.Nodup)(hlt:∀ x∈cs,x<w):sm w (fun j=>g j*Tu (fun _=>0) f 0 cs j)=sm cs.length fun m=>g (cs.getD m 0)*f m:=by
 induction hl:cs.length generalizing cs with
 | zero=>
  have:cs=[]:=cR hl
  subst this
  rw [sm]
  exact N8 fun j _=>by show g j*(0:Rat)=0;exact aZ _
 | succ k ih=>
  obtain ⟨ds,d,rfl⟩:∃ ds d,cs=ds++[d]:=⟨cs.dropLast,cs.getLast (by intro e;rw [e] at hl;cases hl),(List.dropLast_concat_getLast _).symm⟩
  have a:ds.length=k:=by simpa using hl
  rw [List.nodup_append] at nd
  have q:d∉ds:=fun h=>nd.2.2 d h d (by simp) rfl
  have r:∀ j,Tu (fun _=>0) f 0 (ds++[d]) j=(if j=d then f k else 0)+Tu (fun _=>0) f 0 ds j:=by
   intro j
   have key:∀ (l:List Nat) (x:Nat->Rat) (i:Nat),d∉l->Tu x f i (l++[d]) j=if j=d then f (i+l.length) else Tu x f i l j:=by
    intro l
    induction l with
    | nil=>intro x i _;rfl
    | cons c l ih=>
     intro x i p
     rw [List.cons_append,Tu,ih _ _ fun h=>p (List.mem_cons_of_mem _ h),Tu,List.length_cons]
     have:i+1+l.length=i+(l.length+1):=o
     rw [this]
   rw [key ds _ 0 q,aH,a]
   by_cases e:j=d
   ·rw [iP e,iP e,e,A4y f ds _ _ _ q];exact (bC _).symm
   ·rw [iN e,iN e];exact (dI _).symm
  have t:sm w (fun j=>g j*Tu (fun _=>0) f 0 (ds++[d]) j)=sm w (fun j=>g j*(if j=d then f k else 0))+sm w fun j=>g j*Tu (fun _=>0) f 0 ds j:=by
   rw [<- Bi];exact C4 fun j _=>by rw [r];grind
  have n:d<w:=hlt d (by simp)
  rw [t,ih nd.1 (fun x u=>hlt x (by simp [u])) a,U9 n fun j _ b=>by rw [iN b,aZ],iP rfl,sm]
  have s:(ds++[d]).getD k 0=d:=by rw [<- a];exact A03 _ _
  rw [s,Rat.add_comm]
  congr 1
  exact C4 fun m y=>by rw [Lc ds d m o]
def EqA.none{n w:Nat}{A:Nat->Nat->Rat}{s:ES}(h:EqA n (w+1) w A s){i:Nat}(hi:i<n)(hk:s.cs.length<=i)(hne:s.R i w≠0):∃ y:Nat->Rat,(∀ j,j<w->sm n (fun l=>y l*A l j)=0)/\sm n (fun l=>y l*A l w)=1:=by
 obtain ⟨T,c⟩:=h.comb
 have b:∀ j,j<w+1->sm n (fun l=>T i l/s.R i w*A l j)=s.R i j/s.R i w:=by
  intro j a
  rw [c i j hi a,cM,aR _ (s.R i w)⁻¹,<- J9]
  exact C4 fun l _=>by rw [cM];grind
 refine ⟨fun l=>T i l/s.R i w,fun j a=>?_,?_⟩
 ·rw [b j o,h.zero i j hi hk a];grind
 ·rw [b w o];grind
def EqA.sol{n w:Nat}{A:Nat->Nat->Rat}{s:ES}(h:EqA n (w+1) w A s)(nd:s.cs.Nodup)(h0:∀ i,i<n->s.cs.length<=i->s.R i w=0){i:Nat}(hi:i<n):sm w (fun j=>A i j*Tu (fun _=>0) (fun m=>s.R m w) 0 s.cs j)=A i w:=by
 obtain ⟨B,E,d,_⟩:=h.elim
 obtain ⟨a,b,e⟩:=d i hi
 rw [A70 _ _ nd h.lt]
 rw [<- e w,C4 (g:=fun m=>B a (s.cs.getD m 0)*s.R m w) fun m _=>by rw [e]]
 by_cases c:a<s.cs.length
 ·exact (E.top a w c o).symm
 ·rw [E.bot a w b o o,h0 a b o,dI]
def mtx(E:Nat->Rat)(cols:Nat):Nat->Nat->Rat:=fun i j=>E (i*cols+j)
def elE(E:Nat->Rat)(rows cols c:Nat):ES:=Ps rows ⟨mtx E cols,[],1⟩ c
def elP(E:Nat->Rat)(rows cols c:Nat):PS:=Fv rows ⟨A1o E cols,Sw E cols,[],1,1⟩ c
def A0e(E:Nat->Rat){rows cols c:Nat}(hc:c<=cols):ERel rows cols c (mtx E cols) (elE E rows cols c) (elP E rows cols c):=
 (ERel.start (fun i j _ a=>B3q E cols i a) (fun i _=>by have:=Pq E cols i;grind)).run c hc
def A2r(E:Nat->Rat){rows cols c:Nat}(hc:c<=cols):(elP E rows cols c).cs=(elE E rows cols c).cs:=(A0e E hc).cs.symm
def A4e(E:Nat->Rat){rows cols c:Nat}(hc:c<=cols){i j:Nat}(hi:i<rows)(hj:j<cols)(h:i<(elE E rows cols c).cs.length\/j<c):aS ((elP E rows cols c).M i j) (elP E rows cols c).last=(elE E rows cols c).R i j:=by
 have r:=A0e E hc (rows:=rows)
 have b:=r.val i j hi hj
 have d:=O9 r.last
 rw [bH,b]
 by_cases a:i<(elE E rows cols c).cs.length
 ·grind
 ·rw [iN a,r.zero i j hi o o,aZ,aZ]
  grind
def bnd(cols m:Nat):Nat:=1+cols*m+m
def B8j{E:Nat->Rat}{rows cols m:Nat}(h:∀ i,i<rows*cols->Sz m (E i)):ZbP rows cols (bnd cols m) (bnd cols m) ⟨A1o E cols,Sw E cols,[],1,1⟩:=by
 have e:∀ i,i<rows->∀ j,j<cols->Sz m (E (i*cols+j)):=fun i g j f=>h _ (Q4 g f)
 refine ⟨fun a b d c=>?_,?_,fun a d=>A1n (e a d),aQ _⟩
 ·show ZB (3^0*bnd cols m) (A1o E cols a b)
  rw [Nat.pow_zero,cO];exact B3p (e a d) c
 ·show ZB (3^0*bnd cols m) 1
  exact ZB.one (by unfold bnd;omega)
def A0d{E:Nat->Rat}{rows cols m c:Nat}(h:∀ i,i<rows*cols->Sz m (E i))(hc:c<=cols):ZbP rows cols (bnd cols m) (bnd cols m) (elP E rows cols c):=(B8j h).run (by unfold bnd;omega) c hc
def B3c(E:Nat->Rat)(rows cols c:Nat):(elP E rows cols c).cs.length<=c:=B0q _ _ rfl c
def Wz(E:Nat->Rat)(rows cols c:Nat)(x:Nat):3^(elP E rows cols c).cs.length*x<=3^c*x:=aD _ (bN dc (B3c E rows cols c))
def A2q(E:Nat->Rat)(rows cols c:Nat):(elP E rows cols c).last≠0:=(Yt rows _ (show (1:Int)≠0 from dc) (.inl rfl) (aQ _) c).1
structure Own2 (h h':aE) (b n:Nat) (f:Nat->List UInt8) (A:Option aG) (cap:Nat) (l:List Int):Prop where
 ex:∃ g o xs,h.le g/\Sep h' g o/\RowX o b xs/\xs.length=n/\Row SSr g xs n f/\OwnSl o 3 A cap l/\A≠some ⟨b,0,none⟩
def Own2.le{h h':aE}{b n:Nat}{f:Nat->List UInt8}{A:Option aG}{cap:Nat}{l:List Int}(w:Own2 h h' b n f A cap l):h.le h':=by
 obtain ⟨g,o,c,a,s,_⟩:=w.ex
 exact B0 a s.le
def Own2.ints{h h':aE}{b n:Nat}{f:Nat->List UInt8}{A:Option aG}{cap:Nat}{l:List Int}(w:Own2 h h' b n f A cap l):SlF h' A l/\l.length<=cap:=by
 obtain ⟨g,o,c,d,s,r,e,q,a,_⟩:=w.ex
 exact ⟨a.slF s.ole,a.1⟩
section
variable {h g o:aE} {T:Tb} {M:Nat->Nat->Int} {S:Nat->Rat}
def Tab.fat(t:Tab h g o T M S){k:Nat}(hk:k<T.rows*T.cols):∃ w:IV,ZIr g w (M (k/T.cols) (k%T.cols))/\o.cell? (aC (aC ⟨T.bE,0,none⟩ (k*2)) 0)=some (.bool w.s)/\o.cell? (aC (aC ⟨T.bE,0,none⟩ (k*2)) 1)=some (.slice w.A w.n w.c):=by
 have a:=t.pos
 have b:k/T.cols<T.rows:=aL gz0
 obtain ⟨w,d,c0,c1⟩:=t.ato b (cD k a)
 have e:k/T.cols*T.cols*2+k%T.cols*2=k*2:=by rw [<- aY,cC (k/T.cols),Nat.div_add_mod]
 rw [D6,D6,e] at c0 c1
 refine ⟨w,d,?_,?_⟩
 ·rw [D6,D6,aH];exact c0
 ·rw [D6,D6,aH];exact c1
end
section
variable {h:aE} {K:VP} {A:Option aG} {n cap m:Nat} {r c:Int} {ls:Nat->List UInt8}
abbrev rvs(ls:Nat->List UInt8):Nat->Rat:=fun i=>rv (ls i)
def Om{E:Nat->Rat}{rows cols cc nq:Nat}(gl:Gl h)(rq:RowV RQr h A (rows*cols) E)(hcap:rows*cols<=cap)(hr:1<=rows)(hr2:rows<=10000)(hc:1<=cols)(hc2:cols<=10000)(hcc:cc<=cols)(hs:∀ i,i<rows*cols->Sz m (E i))(hnq:∀ k,k<=cc->(elP E rows cols k).cs.length<=nq)(hm:2*(3^nq*bnd cols m)+1<=100000000){K:VP}
 (hK:∀ T h1,aJ prog 152 #[.pointer (some ⟨T.bt,0,none⟩),I (cc:Int)] h1 (fun r h'=>∃ g' o' A' cap' w,h.le g'/\Tab h' g' o' T (elP E rows cols cc).M (elP E rows cols cc).S/\OwnSl o' 3 A' cap' (zs (elP E rows cols cc).cs)/\B2f T A'/\ZIr g' w (elP E rows cols cc).last/\
  r= .tuple #[.slice A' (elP E rows cols cc).cs.length cap',w.v,I (elP E rows cols cc).sgn])->h.le h1->T.rows=rows->T.cols=cols->K (.pointer (some ⟨T.bt,0,none⟩)) h1):aJ prog 151 #[.slice A (rows*cols) cap,I (cols:Int)] h K:=by
 have h1:bnd cols m<=3^nq*bnd cols m:=Nat.le_mul_of_pos_left _ (cN dc)
 have j:bnd cols m=1+cols*m+m:=rfl
 refine Kq (m:=m) gl rq hcap hr hr2 hc hc2 hs o ?_
 intro h' g' o' T f t b s
 refine hK T h' ?_ (B0 f t.sep.le) b s
 have u:=B8j hs
 refine Yw (m:=bnd cols m) (l:=bnd cols m) t o o (by rw [b];exact hnq) hm gz0 ?_
 intro j g q A2 a w n c e p ko d
 rw [b] at c e d ⊢
 exact ⟨g,q,A2,a,w,B0 f n,c,e,p,d,rfl⟩
def Ip{E:Nat->Rat}{rows cols cc:Nat}(gl:Gl h)(rq:RowV RQr h A (rows*cols) E)(hcap:rows*cols<=cap)(hr:1<=rows)(hr2:rows<=10000)(hc:1<=cols)(hc2:cols<=10000)(hcc:cc<=cols)(hs:∀ i,i<rows*cols->Sz m (E i))(hm:2*(3^cc*bnd cols m)+1<=100000000){K:VP}
 (hK:∀ T h1,aJ prog 152 #[.pointer (some ⟨T.bt,0,none⟩),I (cc:Int)] h1 (fun r h'=>∃ g' o' A' cap' w,h.le g'/\Tab h' g' o' T (elP E rows cols cc).M (elP E rows cols cc).S/\OwnSl o' 3 A' cap' (zs (elP E rows cols cc).cs)/\B2f T A'/\ZIr g' w (elP E rows cols cc).last/\
  r= .tuple #[.slice A' (elP E rows cols cc).cs.length cap',w.v,I (elP E rows cols cc).sgn])->h.le h1->T.rows=rows->T.cols=cols->K (.pointer (some ⟨T.bt,0,none⟩)) h1):aJ prog 151 #[.slice A (rows*cols) cap,I (cols:Int)] h K:=Om gl rq hcap hr hr2 hc hc2 hcc hs (fun k a=>dK (B3c E rows cols k) a) hm hK
def A5e(gl:Gl h)(rv':RowV SSr h A n ls)(hn:n<=1000000)(hl:LL n ls)(hs:∀ i,i<n->Sz m (rv (ls i)))(hb:∀ rows cols,MOk r c n ls rows cols->2*(3^cols*bnd cols m)+1<=100000000)
 (hK1:∀ rows cols,MOk r c n ls rows cols->∀ h',h.le h'->K (.tuple #[I ((elE (rvs ls) rows cols cols).cs.length:Int),I 0]) h')
 (hK0:¬ Mx r c n ls->∀ h',h.le h'->K (.tuple #[I 0,I 1]) h'):aJ prog 109 #[Hy r c A n cap] h K:=by
 refine (fnk func109 (os:=[(4,[0,1,2,4,5,11,3,6,7,8,9,10,12,13,14])]) (own:=[1,7]) (wr:=[152])) ?_
 refine U3 gl rv' hn hl ?_ ?_
 ·intro rows cols mk b f own
  have e:=hb rows cols mk
  obtain ⟨rfl,rfl,t,q,u,l,rfl,j⟩:=id mk
  refine ⟨_,_,_,_,rfl,?_⟩
  refine Ip (E:=rvs ls) (cc:=cols) (m:=m) (gl.mono own.le) (own.vis G1) (aF _) o o o o (aF _) hs e ?_
  intro T D a z L F
  refine ⟨_,rfl,z,?_⟩
  refine FCall.mono a ?_
  rintro C s ⟨N,G,A3,g,w,p,k,H,M,B,rfl⟩
  refine ⟨_,_,_,_,_,_,_,_,rfl,?_⟩
  rw [A2r _ (aF _)]
  exact hK1 rows cols mk s (B0 own.le (B0 p k.sep.le))
 ·intro d f y
  exact ⟨_,_,_,_,rfl,hK0 d f y⟩
end
def B6k(E:Nat->Rat)(rows cols:Nat):Nat->Rat:=fun k=>(elE E rows cols cols).R (k/cols) (k%cols)
def Own2.of{h g o g5 h7:aE}{b n:Nat}{f:Nat->List UInt8}{A:Option aG}{cap:Nat}{l:List Int}(s:Sep h7 g5 o)(lh:h.le g)(ow:OwnSl o 3 A cap l)(w:Own SSr g g5 b n f):Own2 h h7 b n f A cap l:=by
 obtain ⟨p,a,q,u,c,d,z,i⟩:=w.ex
 have m:∀ k x,a k=some x->(o.join a) k=some x:=fun k x e=>by show (match a k with|some x=>some x|none=>o k)=_;rw [e]
 have F:∀ k,a k=none->(o.join a) k=o k:=fun k e=>by show (match a k with|some x=>some x|none=>o k)=_;rw [e]
 have B:∀ k x,o k=some x->a k=none:=by
  intro k x e
  cases ho:a k with
  | none=>rfl
  | some y=>have:=s.dis k x e;rw [c.own k y ho] at this;cases this
 refine ⟨p,o.join a,q,B0 lh u,s.join c,d.keep (fun x e=>m b x e),z,i,ow.keep fun k x _ e=>gz0,fun G=>?_⟩
 obtain ⟨e,E⟩:=d
 rcases ow.2 with ⟨_,C⟩|⟨D,t,r,j,_⟩
 ·grind
 grind
def Ug(o:aE)(A:Option aG):aE:=fun k=>if A=some ⟨k,0,none⟩ then o k else none
def A81(o:aE)(A:Option aG):(Ug o A).le o:=fun k x e=>by
 unfold Ug at e
 grind
def OwnSl.only{α:Type}[E:Enc α]{o:aE}{e:aK}{A:Option aG}{c:Nat}{xs:List α}(w:OwnSl o e A c xs):OwnSl (Ug o A) e A c xs:=w.keep fun b x a d=>by unfold Ug;grind
def A2b(o:aE){A:Option aG}{k:Nat}(h:A≠some ⟨k,0,none⟩):Ug o A k=none:=by unfold Ug;grind
section
variable {h:aE} {K:VP} {A:Option aG} {n cap m:Nat} {r c:Int} {ls:Nat->List UInt8}
def Zp(gl:Gl h)(rv':RowV SSr h A n ls)(hn:n<=1000000)(hl:LL n ls)(hs:∀ i,i<n->Sz m (rv (ls i)))(hb:∀ rows cols,MOk r c n ls rows cols->2*(3^cols*bnd cols m)+1<=40000000)
 (hK1:∀ rows cols,MOk r c n ls rows cols->∀ b h' A' cap',Own2 h h' b n (fun k=>E7 (B6k (rvs ls) rows cols k)) A' cap' (zs (elE (rvs ls) rows cols cols).cs)->K (.tuple #[Hy r c (some ⟨b,0,none⟩) n n,.slice A' (elE (rvs ls) rows cols cols).cs.length cap',I 0]) h')
 (hK0:¬ Mx r c n ls->∀ h',h.le h'->K (.tuple #[Hy 0 0 none 0 0,.slice none 0 0,I 1]) h'):aJ prog 146 #[Hy r c A n cap] h K:=by
 refine (fnk func146 [(7,[38],[],[I 0])] (own:=[1,2,9,12]) (wr:=[152])) ?_
 refine U3 gl rv' hn hl ?_ ?_
 ·intro rows cols mk b h1 own
  have V:=hb rows cols mk
  obtain ⟨rfl,rfl,a4,a0,a1,a3,rfl,av⟩:=id mk
  have ol:=own.le
  have ov:=own.vis G1
  obtain ⟨g1,o1,l,W,s1,rx,hx,rr⟩:=own.ex
  obtain ⟨e1,ad⟩:=id rx
  refine ⟨_,_,_,_,rfl,?_⟩
  refine Ip (E:=rvs ls) (cc:=cols) (m:=m) (gl.mono ol) ov (aF _) oo oo oo oo (aF _) hs oo ?_
  intro T h2 Q l2 a5 ae
  refine ⟨_,rfl,?_⟩
  refine FCall.mono Q ?_
  rintro r3 h3 ⟨g3,o3,A3,d,w,l3,t3,ow,ap,iw,rfl⟩
  refine ⟨_,_,_,_,_,_,_,_,rfl,_,rfl,_,_,_,t3.c1,?_⟩
  have j:=A0d (E:=rvs ls) (rows:=rows) (c:=cols) hs (aF _)
  have az:=Wz (rvs ls) rows cols cols (bnd cols m)
  have t:=A2q (rvs ls) rows cols cols
  have p:∀ k,k<rows*cols->aS ((elP (rvs ls) rows cols cols).M (k/cols) (k%cols)) (elP (rvs ls) rows cols cols).last=B6k (rvs ls) rows cols k:=by
   intro k D
   have X:k/cols<rows:=aL gz0
   have C:=cD k (show 0<cols from oo)
   exact A4e (rvs ls) (aF _) X C (.inr C)
  rw [A2r _ (aF _)] at ow ⊢
  generalize elP (rvs ls) rows cols cols=st at *
  have a:g3 b=some (.cells (l.flatMap enc).toArray e1):=l3 _ _ (s1.own _ _ ad)
  have an:A3≠some ⟨b,0,none⟩:=by
   intro hA
   rcases ow.2 with ⟨_,h0⟩|⟨b',ay,u,V,_⟩
   ·grind
   ·rw [hA] at u
    simp only [aM,aU,and_true] at u
    subst u
    rw [t3.sep.dis _ _ V] at a;cases a
  have al:∀ k x,o3 k=some x->k≠b:=by rintro k x e rfl;rw [t3.sep.dis k x e] at a;cases a
  have t4:=t3.grab a (Zk l)
  have ak:ZI (g3.without b) w.s w.A w.n w.c st.last:=ZI.without a (Zk l) iw
  have H:g1.le (g3.without b):=Sv (B0 s1.le l3) (s1.dis _ _ ad)
  have am:OwnSl (o3.put b (.cells (l.flatMap enc).toArray e1)) 3 A3 d (zs (elE (rvs ls) rows cols cols).cs):=ow.keep fun k x _ e=>by rw [B7 _ _ (al k x e)];exact e
  have ah:RowX (o3.put b (.cells (l.flatMap enc).toArray e1)) b l:=RowX.mk
  generalize g3.without b=g4 at *
  generalize o3.put b (.cells (l.flatMap enc).toArray e1)=o4 at *
  have nb:b≠T.bt/\b≠T.bE/\b≠T.bS:=by
   obtain ⟨⟨x1,y1⟩,⟨x2,y2⟩,⟨x3,y3⟩⟩:=t3.own
   grind
  refine ⟨fun L hp=>∃ (k:Nat) (g o:aE) (G:List QV),k<=rows*cols/\L=[I (k:Int)]/\g4.le g/\Tab hp g o T st.M st.S/\RowX o b G/\G.length=rows*cols/\Row RQr g G k (B6k (rvs ls) rows cols)/\(∀ f,f≠b->o f=o4 f),fun L _=>rows*cols-(iAt L 0).toNat,⟨0,g4,o4,l,oo,rfl,B6 _,t4,ah,hx,Row.nil,fun _ _=>rfl⟩,?_⟩
  rintro z hp ⟨k,g5,o5,G,D,eL,l5,B,ac,hy,aa,ax⟩
  obtain rfl:z=(k:Int):=gz0
  refine C0 (fun aj=>?_) (fun a2=>?_)
  ·have q:k<rows*cols:=gz0
   obtain ⟨w5,z5,c0,c1⟩:=B.fat (k:=k) oo
   rw [ae] at z5
   have X:k/cols<rows:=aL gz0
   have C:=cD k (show 0<cols from oo)
   refine ⟨_,rfl,oo,aj,_,_,_,_,B.sep.cell c0,B.sep.cell c1,?_⟩
   refine B.sep.call (O2 (gl.mono (B0 W (B0 H l5))).tz z5 (ak.mono l5) (j.M _ _ X C) j.last oo ?_)
   intro w6 O F i6 h6 s6
   rw [p k q] at i6
   refine ⟨_,_,_,_,_,_,_,_,rfl,_,rfl,oo,oo,?_⟩
   refine S5 Eg (y:=w6) rfl s6 ac (i:=k) oo ?_
   intro h7 o7 x7 eo s7 ar
   have ko:∀ f,f≠b->o7 f=o5 f:=fun f D=>by rw [eo,B7 _ _ D]
   rw [wiS k oo]
   refine ⟨⟨k+1,O,o7,_,oo,rfl,B0 l5 F,B.keep s7 F (fun f x e aw=>by
    grind),ar,gz0,(aa.mono G1 F).set oo i6,fun f D=>gz0⟩,by simp only [Y2];omega⟩
  ·have q:k=rows*cols:=gz0
   subst q
   have ag:OwnSl o5 3 A3 d (zs (elE (rvs ls) rows cols cols).cs):=am.keep fun f x hA e=>by grind
   obtain ⟨O,F,s6⟩:=B.sep.give (A81 o5 A3)
   obtain ⟨e5,aq⟩:=id ac
   have ao:O b=some (.cells (G.flatMap enc).toArray e5):=by
    rw [<- s6.rest b (A2b o5 an)]
    exact B.sep.own _ _ aq
   have au:RowV RQr O (some ⟨b,0,none⟩) (rows*cols) (B6k (rvs ls) rows cols):=⟨G,(RowX.rowB ⟨e5,ao⟩).slF (B6 _),hy,aa.mono G1 F⟩
   have R:h.le O:=B0 W (B0 H (B0 l5 F))
   have af:∀ k,k<rows*cols->Sz (3^st.cs.length*bnd cols m) (B6k (rvs ls) rows cols k):=by
    intro k D
    have X:k/cols<rows:=aL gz0
    have C:=cD k (show 0<cols from oo)
    rw [<- p k D]
    exact S1 t (j.M _ _ X C) j.last
   refine s6.call (Jb (gl.mono R) au hn af oo ?_)
   intro b2 g7 N h7 s7
   exact ⟨_,_,_,_,_,rfl,hK1 rows cols mk b2 h7 A3 d (Own2.of s7 R ag.only N)⟩
 ·intro ai h1 l1
  exact ⟨_,_,_,_,rfl,hK0 ai h1 l1⟩
end
def Yb:E7 0=[48]:=by rfl
section
variable {h:aE} {K:VP} {A:Option aG} {n cap m:Nat} {r c:Int} {ls:Nat->List UInt8}
end
structure HV where
 A:Option aG
 n:Nat
 c:Nat
abbrev HV.v(s:HV):aP:=.slice s.A s.n s.c
instance:Enc HV:=⟨⟨fun s=>[.slice s.A s.n s.c],1,fun _=>rfl,fun s v hv=>by rw [List.mem_singleton.1 hv];rfl⟩⟩
def RowsV(h:aE)(A:Option aG)(n w:Nat)(M:Nat->Nat->Rat):Prop:=∃ hd:List HV,SlF h A hd/\hd.length=n/\∀ i,i<n->∃ s,hd[i]? = some s/\s.n=w/\w<=s.c/\RowV NQr h s.A w (M i)
def RowsV.at{h:aE}{A:Option aG}{n w:Nat}{M:Nat->Nat->Rat}(r:RowsV h A n w M){i:Nat}(hi:i<n):∃ (a:aG) (s:HV),A=some a/\s.n=w/\w<=s.c/\h.cell? (aC a (i*1))=some (.slice s.A s.n s.c)/\RowV NQr h s.A w (M i):=by
 obtain ⟨b,s,e,r⟩:=r
 obtain ⟨u,l,k,d,r⟩:=r i hi
 obtain ⟨a,f,j⟩:=SlF.at dc s (i:=i) o
 have g:b[i]=u:=by
  grind
 have:=j 0 _ (by rw [g];rfl)
 exact ⟨a,u,f,k,d,this,r⟩
structure Mt (h g o:aE) (bo:Nat) (rb:Nat->Nat) (n w:Nat) (M:Nat->Nat->Rat):Prop where
 sep:Sep h g o
 hd:∃ hd:List HV,RowB o bo hd/\hd.length=n/\∀ i,i<n->∃ c,hd[i]? = some ⟨some ⟨rb i,0,none⟩,w,c⟩/\w<=c
 nb:∀ i,i<n->rb i≠bo
 inj:∀ i j,i<n->j<n->rb i=rb j->i=j
 row:∀ i,i<n->∃ xs:List QV,RowB o (rb i) xs/\xs.length=w/\Row NQr g xs w (M i)
section
variable {h g o:aE} {bo n w:Nat} {rb:Nat->Nat} {M:Nat->Nat->Rat}
end
def RWr(w:Nat):aE->HV->(Nat->Rat)->Prop:=fun h s f=>s.n=w/\w<=s.c/\RowV NQr h s.A w f
def Q0(w:Nat):Mon (RWr w):=fun _ _ _ _ l i=>⟨i.1,i.2.1,i.2.2.mono F3 l⟩
def RowsV.of{h:aE}{A:Option aG}{n w:Nat}{M:Nat->Nat->Rat}(r:RowV (RWr w) h A n M):RowsV h A n w M:=r
section
variable {h:aE} {K:VP} {A:Option aG} {n cap m w:Nat} {r c:Int} {ls:Nat->List UInt8} {M:Nat->Nat->Rat}
end
section
variable {α:Type} [E:Enc α]
def OwnSl.app{P:cI}{t e ty:aK}{z:aP}{bytes:Nat}(st:cH P t e z E.default.size bytes){h g o:aE}{A:Option aG}{c:Nat}{xs:List α}(s:Sep h g o)(w:OwnSl o e A c xs){B:Option aG}{d m n:Nat}{ys:List α}(hxn:n=xs.length)(hm:m=ys.length)(hne:ys≠[])(sy:SlF h B ys)(hb:(2*(xs.length+ys.length)+192)*bytes<=281474976710656)(hn:xs.length+ys.length<=9223372036854775807){K:VP}
 (x:∀ A' c' h' g' o',g.le g'->Sep h' g' o'->OwnSl o' e A' c' (xs++ys)->(∀ k u,o k=some u->A≠some ⟨k,0,none⟩->o' k=some u/\A'≠some ⟨k,0,none⟩)->K (.slice A' (xs.length+m) c') h'):
 wpH P (bF #[t,t] ty #[.slice A n c,.slice B m d]) K h:=by
 subst hxn
 obtain ⟨gb,p,l⟩:=w.priv s
 refine Hs st p hm sy hb hn ?_
 intro A' c' h' g' S L
 rw [aT,<- hm]
 have j:∀ k u,h k=some u->A≠some ⟨k,0,none⟩->g' k=some u:=by
  intro k u a hne
  exact S k u (l k u a hne)
 have H:∀ k u,g k=some u->A≠some ⟨k,0,none⟩:=by
  intro k u a r
  rcases w.2 with ⟨_,h0⟩|⟨i,f,b,C,_⟩
  ·grind
  ·rw [r] at b
   simp only [aM,aU,and_true] at b
   subst b
   rw [s.dis k _ C] at a;cases a
 rcases L.2.2 with ⟨Q,_⟩|⟨i,f,b,C,D,X,R⟩
 ·exfalso
  have:=L.2.1
  simp_all
 ·subst b
  let o':aE:=fun k=>if k=i then some (.cells (bI f) e) else if A=some ⟨k,0,none⟩ then none else o k
  have N:o' i=some (.cells (bI f) e):=gz0
  have ok:∀ k,k≠i->A≠some ⟨k,0,none⟩->o' k=o k:=fun k O G=>by grind
  let g2:aE:=fun k=>match o' k with|some _=>none|none=>h' k
  have V:∀ k u,o' k=some u->g2 k=none:=fun k u a=>by grind
  have W:∀ k,o' k=none->g2 k=h' k:=fun k a=>by grind
  have F:∀ k u,k≠i->g' k=some u->h' k=some u:=fun k u O a=>by rw [D,B7 _ _ O];exact a
  have M:∀ k u,o k=some u->A≠some ⟨k,0,none⟩->k≠i:=by
   rintro k u a G rfl
   have:=j k u (s.own k u a) G
   grind
  refine x _ c' h' g2 o' (fun k u a=>?_) ⟨fun k u a=>?_,fun k a=>(W k a).symm,V⟩ ⟨L.2.1,.inr ⟨i,f,rfl,N,X,R⟩⟩ (fun k u a G=>?_)
  ·have T:o k=none:=by
    cases ho:o k with
    | none=>rfl
    | some y=>rw [s.dis k y ho] at a;cases a
   have r:=H k u a
   have e3:=j k u (s.le k u a) r
   grind
  ·by_cases q:k=i
   ·subst q
    rw [N] at a;cases a
    rw [D,C2]
   ·by_cases r:A=some ⟨k,0,none⟩
    ·grind
    ·rw [ok k q r] at a
     exact F k u q (j k u (s.own k u a) r)
  grind
end
def O7(M:Nat->Nat->Rat)(w:Nat):Nat->List UInt8:=fun k=>E7 (M (k/w) (k%w))
section
variable {h:aE} {K:VP} {A:Option aG} {n cap m w:Nat} {M:Nat->Nat->Rat}
end
abbrev ecE(M:Nat->Nat->Rat)(n c:Nat):ES:=Ps n ⟨M,[],1⟩ c
def V6(M:Nat->Nat->Rat)(n:Nat):∀ c,(ecE M n c).cs.length<=c/\(ecE M n c).cs.length<=n:=by
 intro c
 induction c with
 | zero=>exact ⟨aF _,aQ _⟩
 | succ c ih=>
  show (Cp n c (ecE M n c)).cs.length<=c+1/\(Cp n c (ecE M n c)).cs.length<=n
  unfold Cp
  grind
abbrev qc(w:QV):List aP:=[.bool w.s,.slice w.A w.n w.c,.bool w.s2,.slice w.A2 w.n2 w.c2]
def A55{w:QV}{a b:Bool}{A B:Option aG}{n c n' c':Nat}{l l':List aP}(h:(.bool a:aP) :: .slice A n c :: .bool b :: .slice B n' c'::l= .bool w.s :: .slice w.A w.n w.c :: .bool w.s2 :: .slice w.A2 w.n2 w.c2::l'):(⟨a,A,n,c,b,B,n',c'⟩:QV)=w/\l=l':=by
 simp_all
section
variable {g o h11 h14 h15 hp2:aE} {bo n w r c i B:Nat} {rb:Nat->Nat} {R:Nat->Nat->Rat} {x:QV} {q:Rat} {Invv Invv3:LP} {muv muv3:LN}
end
section
variable {g o h5 h9 hp2:aE} {bo n w r c B k:Nat} {rb:Nat->Nat} {R:Nat->Nat->Rat} {q:Rat} {Invv:LP} {muv:LN} {pA:Option aG} {pc:Nat} {wd wd0:QV} {l:List Nat}
end
section
variable {h:aE} {K:VP} {A:Option aG} {n cap m w:Nat} {M:Nat->Nat->Rat}
end
section
variable {h:aE} {K:VP} {A B:Option aG} {n m a b:Nat} {r c r2 c2:Int} {ls ls2:Nat->List UInt8}
def SlF.iat{xs:List Int}(s:SlF h A xs){i:Nat}(hi:i<xs.length):∃ x,A=some x/\h.cell? (aC x (i*1))=some (I xs[i]):=by
 obtain ⟨x,e,a⟩:=SlF.at dc s hi
 have:=a 0 _ rfl
 rw [V9] at this
 exact ⟨x,e,this⟩
structure Small (r c:Int) (n:Nat) (ls:Nat->List UInt8) (k d:Int):Prop where
 hr:r<=k
 hc:c<=k
 hn:(n:Int)<=k*k+2
 hl:∀ i,i<n->((ls i).length:Int)<=d
end
def B1j(ls:List (List UInt8)):(ls.flatMap fun l=>[Value.string (bs l)])=ls.map fun l=>Value.string (bs l):=by
 induction ls with
 | nil=>rfl
 | cons x l ih=>rw [List.flatMap_cons,ih];rfl
def A2d(R:Nat->Nat->Rat)(cs:List Nat)(c:Nat):Nat->Nat->Rat
 | 0=>fun j=>if j=c then 1 else 0
 | k+1=>fun j=>if j=cs.getD k 0 then-R k c else A2d R cs c k j
def Jh(cs:List Nat):Nat->List Nat
 | 0=>[]
 | c+1=>if c∈cs then Jh cs c else Jh cs c++[c]
def Jm(cs:List Nat):Nat->Nat
 | 0=>0
 | c+1=>if c∈cs then Jm cs c+1 else Jm cs c
def Un(cs:List Nat):∀ c,(Jh cs c).length+Jm cs c=c:=by
 intro c
 induction c with
 | zero=>rfl
 | succ c ih=>
  show (if c∈cs then Jh cs c else Jh cs c++[c]).length+(if c∈cs then Jm cs c+1 else Jm cs c)=c+1
  split
  ·omega
  ·rw [aT];simp only [List.length_cons,List.length_nil];omega
def Lj(cs:List Nat):∀ c,∀ x∈Jh cs c,x<c/\x∉cs:=by
 intro c
 induction c with
 | zero=>intro x a;exact absurd a (by simp [Jh])
 | succ c ih=>
  intro x a
  unfold Jh at a
  split at a
  ·have:=ih x a;exact ⟨o,this.2⟩
  ·rename_i b
   rcases List.mem_append.1 a with a|a
   ·have:=ih x a;exact ⟨o,this.2⟩
   ·simp only [List.mem_cons,List.not_mem_nil,or_false] at a
    subst a;exact ⟨o,b⟩
def A4j{cs:List Nat}(h:cs.Pairwise (· < ·)):∀ c,Jm cs c<=cs.length/\(∀ i (hi:i<cs.length),i<Jm cs c->cs[i]<c)/\(∀ i (hi:i<cs.length),Jm cs c<=i->c<=cs[i]):=by
 intro c
 induction c with
 | zero=>exact ⟨aQ _,fun i hi h=>absurd h (Nat.not_lt_zero _),fun _ _ _=>aQ _⟩
 | succ c ih=>
  obtain ⟨m,d,j⟩:=ih
  have pw:=List.pairwise_iff_getElem.1 h
  unfold Jm
  split
  ·rename_i f
   obtain ⟨k,b,e⟩:=List.getElem_of_mem f
   have:Jm cs c<=k:=Nat.not_lt.1 fun a=>by have:=d k b a;omega
   have n:k=Jm cs c:=cT (Nat.not_lt.1 fun a=>by
    have g:Jm cs c<cs.length:=o
    have:=pw (Jm cs c) k g b a
    have:=j (Jm cs c) g (aF _)
    omega) this
   refine ⟨o,fun i hi a=>?_,fun i hi a=>?_⟩
   ·by_cases l:i=k
    ·subst l;omega
    ·have:=d i hi o;omega
   ·have:=pw k i b hi o;omega
  ·rename_i f
   refine ⟨m,fun i hi a=>by have:=d i hi a;omega,fun i hi a=>?_⟩
   have:=j i hi a
   have:cs[i]≠c:=fun e=>f (e▸bZ hi)
   omega
def A3u{cs:List Nat}{c:Nat}(h:Asc cs c):Jm cs c=cs.length:=by
 obtain ⟨b,e,d⟩:=A4j h.asc c
 refine cT b (Nat.not_lt.1 fun a=>?_)
 have:=d _ a (aF _)
 have:=h.lt _ (bZ a)
 omega
def Rr{cs:List Nat}{c:Nat}(h:Asc cs c):(Jh cs c).length=c-cs.length:=by
 have:=Un cs c
 rw [A3u h] at this
 omega
def B4u{cs:List Nat}(h:cs.Pairwise (· < ·))(c:Nat):c∈cs ↔ ∃ hk:Jm cs c<cs.length,cs[Jm cs c]=c:=by
 obtain ⟨j,f,g⟩:=A4j h c
 constructor
 ·intro i
  obtain ⟨k,hk,e⟩:=List.getElem_of_mem i
  have a:Jm cs c<=k:=Nat.not_lt.1 fun b=>by have:=f k hk b;omega
  have d:Jm cs c<cs.length:=o
  refine ⟨d,cT ?_ (g _ d (aF _))⟩
  rcases Nat.lt_or_ge (Jm cs c) k with b|b
  ·have:=List.pairwise_iff_getElem.1 h _ _ d hk b;omega
  ·have:Jm cs c=k:=o
   subst this;omega
 ·rintro ⟨hk,e⟩
  rw [<- e];exact bZ hk
def B4z(R:Nat->Nat->Rat)(cs:List Nat)(cols:Nat):Nat->Nat->Rat:=fun i=>A2d R cs ((Jh cs cols).getD i 0) cs.length
section
variable {h:aE} {K:VP} {A B:Option aG} {n cap m:Nat} {r c:Int} {ls:Nat->List UInt8}
def A8c{E:Nat->Rat}{rows cols:Nat}(hs:∀ i,i<rows*cols->Sz m (E i)):∀ i j,i<rows->j<cols->Sz m (mtx E cols i j):=fun _ _ b a=>hs _ (Q4 b a)
def A8v{M:Nat->Nat->Rat}{n w c nq:Nat}(hs:∀ i j,i<n->j<w->Sz m (M i j))(hm:1<=m)(hc:c<=w)(hnq:(ecE M n c).cs.length<=nq){b:Nat}(hb:7^nq*m<=b):(∀ i j,i<n->j<w->Sz b ((ecE M n c).R i j))/\Sz b (ecE M n c).det:=by
 have z:SzE n w m ⟨M,[],1⟩:=⟨fun i j d a=>by simpa using hs i j d a,by simpa using (⟨ZB.one hm,ZB.one hm⟩:Sz m 1),aQ _⟩
 have y:=z.run hm c hc
 have e:7^(ecE M n c).cs.length*m<=7^nq*m:=aD _ (bN dc hnq)
 exact ⟨fun i j d a=>(y.R i j d a).mono (by show 7^(ecE M n c).cs.length*m<=b;omega),y.det.mono (by show 7^(ecE M n c).cs.length*m<=b;omega)⟩
def B8k{M:Nat->Nat->Rat}{n w c:Nat}(hs:∀ i j,i<n->j<w->Sz m (M i j))(hm:1<=m)(hc:c<=w){b:Nat}(hb:7^c*m<=b):(∀ i j,i<n->j<w->Sz b ((ecE M n c).R i j))/\Sz b (ecE M n c).det:=A8v hs hm hc (V6 M n c).1 hb
end
def B52(cs:List Nat){i:Nat}(hi:i<cs.length):(zs cs)[i]'(by rw [List.length_map];exact hi)=((cs.getD i 0:Nat):Int):=by
 rw [List.getElem_map,cZ,dC hi];rfl
def B7x{h:aE}{A:Option aG}{cs:List Nat}(s:SlF h A (zs cs)){i:Nat}(hi:i<cs.length):∃ x,A=some x/\h.cell? (aC x (i*1))=some (I ((cs.getD i 0:Nat):Int)):=by
 obtain ⟨x,e,a⟩:=SlF.iat s (i:=i) (by rw [List.length_map];exact hi)
 rw [B52 cs hi] at a
 exact ⟨x,e,a⟩
def B53{cs:List Nat}{c:Nat}(h:Asc cs c){i:Nat}(hi:i<cs.length):cs.getD i 0<c:=by
 rw [cZ,dC hi];exact h.lt _ (bZ hi)
def B16{cs:List Nat}{c:Nat}(h:c∉cs):Jm cs (c+1)=Jm cs c:=iN h
section
variable {h:aE} {K:VP} {A:Option aG} {n cap m w:Nat} {r c:Int} {ls:Nat->List UInt8} {M:Nat->Nat->Rat}
end
section
variable {α β:Type} {R:aE->α->β->Prop} {g:aE}
def Row.app{xs ys:List α}{f:Nat->β}{p q:Nat}(hp:xs.length=p)(r:Row R g xs p f)(r2:Row R g ys q (fun j=>f (p+j))):Row R g (xs++ys) (p+q) f:=fun i b=>by
 by_cases h:i<p
 ·obtain ⟨w,e,x⟩:=r i h
  exact ⟨w,by rw [List.getElem?_append_left o];exact e,x⟩
 ·obtain ⟨w,e,x⟩:=r2 (i-p) o
  refine ⟨w,by rw [cY o,hp];exact e,?_⟩
  have a:p+(i-p)=i:=o
  show R g w (f i)
  rw [<- a];exact x
end
section
variable {h:aE} {K:VP} {A:Option aG} {n cap m:Nat} {r c:Int} {ls:Nat->List UInt8}
def In{z:Int}(hz: -9223372036854775808<=z/\z<=9223372036854775807)(hK:∀ w h',h.le h'->RQ h' w (z:Rat)->K w.v h'):aJ prog 157 #[I z] h K:=by
 refine (fnk func157 (own:=[2])) ?_
 exact Dd hz.1 hz.2 fun b A1 a c1 h' l i=>⟨_,_,_,_,rfl,hK _ h' l (A3k i)⟩
end
def P8(E b:Nat->Rat)(cols:Nat):Nat->Rat:=fun k=>if k%(cols+1)<cols then E (k/(cols+1)*cols+k%(cols+1)) else b (k/(cols+1))
def dm1{i j c:Nat}(hj:j<c):(i*c+j)/c=i/\(i*c+j)%c=j:=by
 rw [bU,aX,bY hj,bK _ _ o,bD hj,aH]
 omega
def Qd(E b:Nat->Rat){cols i j:Nat}(hj:j<cols):mtx (P8 E b cols) (cols+1) i j=mtx E cols i j:=by
 obtain ⟨c,a⟩:=dm1 (i:=i) (show j<cols+1 from o)
 show P8 E b cols (i*(cols+1)+j)=_
 unfold P8
 rw [c,a,iP hj]
 rfl
def My(E b:Nat->Rat)(cols i:Nat):mtx (P8 E b cols) (cols+1) i cols=b i:=by
 obtain ⟨c,a⟩:=dm1 (i:=i) (show cols<cols+1 from o)
 show P8 E b cols (i*(cols+1)+cols)=_
 unfold P8
 grind
def Vg{E b:Nat->Rat}{rows cols m:Nat}(hs:∀ i,i<rows*cols->Sz m (E i))(hb:∀ i,i<rows->Sz m (b i)):∀ i,i<rows*(cols+1)->Sz m (P8 E b cols i):=by
 intro i c
 have a:i/(cols+1)<rows:=aL gz0
 unfold P8
 by_cases e:i%(cols+1)<cols
 ·rw [iP e];exact hs _ (Q4 a e)
 grind
abbrev Kf(E b:Nat->Rat)(rows cols:Nat):ES:=elE (P8 E b cols) rows (cols+1) cols
def Bv(E b:Nat->Rat)(rows cols:Nat):Prop:=∀ i,i<rows->(Kf E b rows cols).cs.length<=i->(Kf E b rows cols).R i cols=0
def Pc(E b:Nat->Rat)(rows cols:Nat):Nat->Rat:=Tu (fun _=>0) (fun m=>(Kf E b rows cols).R m cols) 0 (Kf E b rows cols).cs
def A7n(f:Nat->Rat)(cs:List Nat):Nat->Nat->Rat
 | 0=>fun _=>0
 | k+1=>fun j=>if j=cs.getD k 0 then f k else A7n f cs k j
def A7m(f:Nat->Rat)(cs:List Nat):∀ k,k<=cs.length->Tu (A7n f cs k) f k (cs.drop k)=Tu (fun _=>0) f 0 cs:=by
 intro k
 induction k with
 | zero=>intro _;rfl
 | succ k ih=>
  intro a
  rw [<- ih o,List.drop_eq_getElem_cons (show k<cs.length from o)]
  have e:cs.getD k 0=cs[k]:=gz0
  show Tu (A7n f cs (k+1)) f (k+1) (cs.drop (k+1))=Tu (fun j=>if j=cs[k] then f k else A7n f cs k j) f (k+1) (cs.drop (k+1))
  rw [<- e]
  rfl
def Vw(f:Nat->Rat)(cs:List Nat):A7n f cs cs.length=Tu (fun _=>0) f 0 cs:=by
 have:=A7m f cs cs.length (aF _)
 rw [List.drop_length] at this
 exact this
def A3i(E b:Nat->Rat)(rows cols:Nat):EqA rows (cols+1) cols (mtx (P8 E b cols) (cols+1)) (Kf E b rows cols):=EqA.run _ cols o
def A0t{cs:List Nat}{c:Nat}(h:Asc cs c):cs.Nodup:=h.asc.imp fun h=>Nat.ne_of_lt h
def A71{E b:Nat->Rat}{rows cols:Nat}(h:Bv E b rows cols){i:Nat}(hi:i<rows):sm cols (fun j=>mtx E cols i j*Pc E b rows cols j)=b i:=by
 have c:(Kf E b rows cols).cs.Nodup:=A0t (Ek rows ⟨_,[],1⟩ rfl cols)
 have:=(A3i E b rows cols).sol c h hi
 rw [My] at this
 rw [<- this]
 exact C4 fun j a=>by rw [Qd E b a];rfl
def A72{E b:Nat->Rat}{rows cols:Nat}(x:Nat->Rat)(h:∀ i,i<rows->sm cols (fun j=>mtx E cols i j*x j)=b i):Bv E b rows cols:=by
 intro i c e
 obtain ⟨T,d⟩:=(A3i E b rows cols).comb
 rw [d i cols c o]
 have k:∀ j,j<cols->sm rows (fun l=>T i l*mtx E cols l j)=0:=by
  intro j a
  rw [C4 (g:=fun l=>T i l*mtx (P8 E b cols) (cols+1) l j) fun l _=>by rw [Qd E b a],<- d i j c o]
  exact (A3i E b rows cols).zero i j c e a
 rw [C4 (g:=fun l=>sm cols fun j=>T i l*mtx E cols l j*x j) fun l f=>by
  rw [My,<- h l f,<- J9]
  grind]
 rw [T6]
 refine N8 fun j a=>?_
 rw [C4 (g:=fun l=>x j*(T i l*mtx E cols l j)) fun l _=>aR _ _,J9,k j a,aZ]
def B0h{E b:Nat->Rat}{rows cols:Nat}(h:¬ Bv E b rows cols):∃ y:Nat->Rat,(∀ j,j<cols->sm rows (fun l=>y l*mtx E cols l j)=0)/\sm rows (fun l=>y l*b l)=1:=by
 have:∃ i,i<rows/\(Kf E b rows cols).cs.length<=i/\(Kf E b rows cols).R i cols≠0:=by
  refine dB fun k=>h fun i d c=>dB fun a=>k ⟨i,d,c,a⟩
 obtain ⟨i,d,c,a⟩:=this
 obtain ⟨y,g,f⟩:=(A3i E b rows cols).none d c a
 refine ⟨y,fun j e=>?_,?_⟩
 ·rw [<- g j e]
  exact C4 fun l _=>by rw [Qd E b e]
 ·rw [<- f]
  exact C4 fun l _=>by rw [My]
def A19(E b:Nat->Rat)(rows cols:Nat):Nat->Rat:=fun k=>if k<cols*rows then E (k%rows*cols+k/rows) else b (k-cols*rows)
def B0t(cols:Nat):Nat->Rat:=fun i=>if i=cols then 1 else 0
def B0s(E b:Nat->Rat){rows cols i j:Nat}(hi:i<cols)(hj:j<rows):mtx (A19 E b rows cols) rows i j=mtx E cols j i:=by
 obtain ⟨c,a⟩:=dm1 (i:=i) hj
 show A19 E b rows cols (i*rows+j)=_
 unfold A19
 rw [iP (Q4 hi hj),c,a]
 rfl
def A7a(E b:Nat->Rat){rows cols j:Nat}:mtx (A19 E b rows cols) rows cols j=b j:=by
 show A19 E b rows cols (cols*rows+j)=_
 unfold A19
 grind
def B6j{E b:Nat->Rat}{rows cols:Nat}(h:¬ Bv E b rows cols):Bv (A19 E b rows cols) (B0t cols) (cols+1) rows:=by
 obtain ⟨y,a,d⟩:=B0h h
 refine A72 y fun i f=>?_
 unfold B0t
 by_cases e:i=cols
 ·subst e
  rw [iP rfl,<- d]
  exact C4 fun j _=>by rw [A7a,aR]
 ·rw [iN e,<- a i o]
  exact C4 fun j c=>by rw [B0s E b o c,aR]
def A73{E b:Nat->Rat}{rows cols m B:Nat}(hB:1<=B)(hs:∀ i j,i<rows->j<cols+1->Sz B ((Kf E b rows cols).R i j))(j:Nat):Sz B (Pc E b rows cols j):=by
 have a:(Kf E b rows cols).cs.length<=rows:=(V6 (mtx (P8 E b cols) (cols+1)) rows cols).2
 unfold Pc
 rw [<- Vw]
 have:∀ k,k<=(Kf E b rows cols).cs.length->Sz B (A7n (fun m=>(Kf E b rows cols).R m cols) (Kf E b rows cols).cs k j):=by
  intro k
  induction k with
  | zero=>intro _;exact Sz.zero hB
  | succ k ih=>
   intro c
   show Sz B (if j=_ then _ else _)
   grind
 grind
def B0i(E b:Nat->Rat)(rows cols:Nat):fnd (fun i=>decide ((elP (P8 E b cols) rows (cols+1) cols).M i cols≠0)) (rows-(Kf E b rows cols).cs.length) (Kf E b rows cols).cs.length=rows↔Bv E b rows cols:=by
 have rel:=A0e (P8 E b cols) (rows:=rows) (cols:=cols+1) (c:=cols) o
 have m:(Kf E b rows cols).cs.length<=rows:=(V6 (mtx (P8 E b cols) (cols+1)) rows cols).2
 have l:∀ i,i<rows->(Kf E b rows cols).cs.length<=i->((elP (P8 E b cols) rows (cols+1) cols).M i cols=0↔(Kf E b rows cols).R i cols=0):=by
  intro i g k
  have a:=rel.val i cols g o
  have f:=O9 rel.last
  have n:=rel.scale i g
  constructor
  ·intro e
   rw [e] at a
   grind
  ·intro e
   simp_all
 have d:=Pv (fun i=>decide ((elP (P8 E b cols) rows (cols+1) cols).M i cols≠0)) (rows-(Kf E b rows cols).cs.length) (Kf E b rows cols).cs.length
 constructor
 ·intro e i g k
  grind
 ·intro h
  refine Uo _ m o (fun j a f=>?_) (fun p=>o)
  simpa using (l j f a).2 (h j f a)
section
variable {h:aE} {K:VP} {A B:Option aG} {n n2 cap cap2 m rows cols nb:Nat} {E b:Nat->Rat}
def Ku{nq:Nat}(gl:Gl h)(ra:RowV RQr h A (rows*cols) E)(hcap:rows*cols<=cap)(rb:RowV RQr h B nb b)(hnb:rows<=nb)(hr:1<=rows)(hr2:rows<=1000)(hc:1<=cols)(hc2:cols<=1000)(hs:∀ i,i<rows*cols->Sz m (E i))(hsb:∀ i,i<rows->Sz m (b i))(hnq:∀ j,j<=cols->(elE (P8 E b cols) rows (cols+1) j).cs.length<=nq)(hm:2*(3^nq*bnd (cols+1) m)+1<=40000000)
 (hK1:Bv E b rows cols->∀ b' h',h.le h'->RowV RQr h' (some ⟨b',0,none⟩) cols (Pc E b rows cols)->K (.tuple #[.slice (some ⟨b',0,none⟩) cols cols,.bool true]) h')
 (hK0:¬ Bv E b rows cols->∀ h',h.le h'->K (.tuple #[.slice none 0 0,.bool false]) h'):aJ prog 154 #[.slice A (rows*cols) cap,I (rows:Int),I (cols:Int),.slice B nb cap2] h K:=by
 refine (fnk func154 [(3,[10,22],[],[.slice none 0 0,I 0]),(15,[68],[],[I 0])] (os:=[(17,[0,1,2,3,5,8,4,6,7,9,10,11])]) (own:=[14]) (wr:=[152])) ?_
 have a5:rows*cols<=1000*1000:=aW hr2 hc2
 have a4:rows*(cols+1)<=1000*1001:=aW hr2 oo
 refine ⟨fun L hp=>∃ (k:Nat) (g o:aE) (xs:List QV) (A':Option aG) (c':Nat),k<=rows/\L=[.slice A' (k*(cols+1)) c',I (k:Int)]/\h.le g/\Sep hp g o/\OwnSl o 244 A' c' xs/\xs.length=k*(cols+1)/\Row RQr g xs (k*(cols+1)) (P8 E b cols),fun L _=>rows-(iAt L 1).toNat,
  ⟨0,h,Fe,[],none,0,oo,gz0,B6 _,Sep.refl h,OwnSl.nil,by simp,by rw [dJ];exact Row.nil⟩,?_⟩
 rintro wA wn wc z hp ⟨k,g,o,xs,A',c',hk,eL,lg,s,ow,n,rr⟩
 obtain ⟨⟨rfl,rfl,rfl⟩,rfl⟩:=eL
 refine C0 (fun aa=>?_) (fun au=>?_)
 ·have d:k<rows:=oo
  have h2:(k+1)*cols<=rows*cols:=aD _ d
  have e:(k+1)*cols=k*cols+cols:=gz0
  have h4:(k+1)*(cols+1)=k*(cols+1)+cols+1:=gz0
  have h5:(k+1)*(cols+1)<=rows*(cols+1):=aD _ d
  have e0:C3 ((k:Int)+1)=((k+1:Nat):Int):=B9 oo oo
  have e1:C3 ((k:Int)*(cols:Int))=((k*cols:Nat):Int):=by exact K3 oo
  have e2:C3 (C3 ((k:Int)+1)*(cols:Int))=(((k+1)*cols:Nat):Int):=by rw [e0,<- cG];exact K3 oo
  rw [e1,e2,e0]
  refine ⟨⟨oo,oo⟩,⟨oo,oo⟩,?_⟩
  simp only [bJ]
  have e5:(k+1)*cols-k*cols=cols:=oo
  rw [e5]
  have row:RowV RQr h (T9 A cap (k*cols) 4) cols (fun j=>E (k*cols+j)):=ra.cut (c:=cap) (l:=k*cols) (k:=cols) oo hcap
  obtain ⟨a,sy,ax,qy⟩:=row
  refine OwnSl.app (ty:=232) Xq s ow n.symm ax.symm gz0 (sy.mono (B0 lg s.le)) oo oo ?_
  intro A2 c2 a8 g2 o2 l2 s2 ao _
  have C:=B0 lg l2
  obtain ⟨a6,u,aq,iu,d0,d1,d2,d3⟩:=(rb.mono G1 C).qat (i:=k) oo
  refine ⟨_,_,_,rfl,a6,aq,oo,oo,_,_,_,_,_,_,_,_,C1 s2.le d0,C1 s2.le d1,C1 s2.le d2,C1 s2.le d3,?_⟩
  have p:(xs++a).length=k*(cols+1)+cols:=gz0
  rw [n]
  refine O5 (ty:=232) Xq s2 ao p.symm (y:=u) rfl dc oo oo ?_
  intro A3 c3 ba g3 o3 W s3 r _
  rw [p]
  have r1:Row RQr g2 (xs++a) (k*(cols+1)+cols) (P8 E b cols):=by
   refine Row.app n (rr.mono G1 l2) ((qy.mono G1 C).congr fun j hj=>?_)
   obtain ⟨f1,f2⟩:=dm1 (i:=k) (show j<cols+1 from oo)
   unfold P8
   grind
  refine ⟨⟨k+1,g3,o3,_,A3,c3,oo,by rw [h4],B0 C W,s3,r,gz0,?_⟩,?_⟩
  ·have rB:=Row.push (R:=RQr) (g:=g3) (xs:=xs++a) (f:=P8 E b cols) (by rw [p];exact r1.mono G1 W) (w:=u) (by
    obtain ⟨f1,f2⟩:=dm1 (i:=k) (show cols<cols+1 from oo)
    show RQ g3 u (P8 E b cols (xs++a).length)
    unfold P8
    rw [p,f1,f2,iN (bX cols)]
    exact G1 _ _ _ _ W iu)
   grind
  ·show rows-((k+1:Nat):Int).toNat<rows-(k:Int).toNat
   omega
 have d:k=rows:=oo
 subst d
 have ew:C3 ((cols:Int)+1)=((cols+1:Nat):Int):=B9 oo oo
 rw [ew]
 have ai:=B0 lg s.le
 have rq:RowV RQr hp wA (k*(cols+1)) (P8 E b cols):=⟨xs,ow.slF s.ole,n,rr.mono G1 s.le⟩
 have ag:=Vg (cols:=cols) hs hsb
 refine Om (nq:=nq) (E:=P8 E b cols) (cc:=cols) (m:=m) (gl.mono ai) rq (by have:=ow.1;omega) oo oo oo oo oo ag (fun j hj=>by rw [A2r _ oo];grind) oo ?_
 intro T h2 ac l2 e1 e2
 refine ⟨_,rfl,FCall.mono ac ?_⟩
 rintro r3 e ⟨g3,o3,A3,az,w,W,Q,r,a9,aw,rfl⟩
 refine ⟨_,_,_,_,_,_,_,_,rfl,?_⟩
 have X:=A0d (E:=P8 E b cols) (rows:=k) (cols:=cols+1) (c:=cols) ag oo
 have al:3^(elP (P8 E b cols) k (cols+1) cols).cs.length*bnd (cols+1) m<=3^nq*bnd (cols+1) m:=aD _ (bN dc (by rw [A2r _ oo];grind))
 have aj:∀ i,i<(Kf E b k cols).cs.length->i<k->aS ((elP (P8 E b cols) k (cols+1) cols).M i cols) (elP (P8 E b cols) k (cols+1) cols).last=(Kf E b k cols).R i cols:=fun i h1 hi=>A4e (P8 E b cols) oo hi oo (.inl h1)
 have ap:Asc (Kf E b k cols).cs cols:=Ek k ⟨_,[],1⟩ rfl cols
 have ay:(Kf E b k cols).cs.length<=cols/\(Kf E b k cols).cs.length<=k:=V6 _ k cols
 have F:=B0i E b k cols
 have eX:Pc E b k cols=A7n (fun m=>(Kf E b k cols).R m cols) (Kf E b k cols).cs (Kf E b k cols).cs.length:=(Vw _ _).symm
 rw [A2r _ oo] at r ⊢
 rw [eX] at hK1
 generalize elP (P8 E b cols) k (cols+1) cols=st at *
 generalize (elE (P8 E b cols) k (cols+1) cols).cs=cs at *
 generalize (elE (P8 E b cols) k (cols+1) cols).R=R at *
 have ah:=X.M
 have V:=X.last
 generalize 3^st.cs.length*bnd (cols+1) m=bb at ah V al
 have sp:=r.slF Q.sep.ole
 have D:h.le e:=B0 ai (B0 W Q.sep.le)
 have iw:ZIr e w st.last:=Cu _ _ _ _ Q.sep.le aw
 refine A08 Q (start:=cs.length) (col:=cols) oo oo (fun aa=>⟨_,_,rfl,hK0 (fun hx=>gz0) e D⟩) (fun a7=>⟨_,_,rfl,?_⟩)
 have av:=hK1 (F.1 gz0)
 have G:∀ t,e.le t->∃ gT,Tab t gT o3 T st.M st.S:=fun t l=>by
  obtain ⟨gT,l',s'⟩:=Q.sep.after l
  exact ⟨gT,Q.next s' l'⟩
 refine J2 Xq (zx:=S8) rfl oo oo oo oo ?_
 intro b2 an
 refine ⟨_,_,_,rfl,?_⟩
 have s5:=(Sep.refl e).new an (.cells ((aI cols S8).flatMap enc).toArray 244)
 have r0:Row RQr e (aI cols S8) cols (A7n (fun m=>R m cols) cs 0):=fun i hi=>⟨S8,gz0,RQ.zero⟩
 refine ⟨fun L q=>∃ (i:Nat) (t o':aE) (a:List QV),i<=cs.length/\L=[I (i:Int)]/\e.le t/\Sep q t o'/\RowX o' b2 a/\a.length=cols/\Row RQr t a cols (A7n (fun m=>R m cols) cs i),fun L _=>cs.length-(iAt L 0).toNat,⟨0,e,_,_,oo,rfl,B6 _,s5,RowX.mk,bL,r0⟩,?_⟩
 rintro z q ⟨i,g6,o6,a,hi,eL,O,N,ad,hy,af⟩
 obtain rfl:z=(i:Int):=gz0
 refine C0 (fun aa=>?_) (fun au=>?_)
 ·have H:i<cs.length:=oo
  obtain ⟨u,eu,ar⟩:=B7x (sp.mono (B0 O N.le)) H
  have a1:=B53 ap H
  obtain ⟨gT,tT⟩:=G g6 O
  refine ⟨u,eu,oo,oo,_,ar,?_⟩
  refine N.call (V3 tT (i:=i) oo ?_)
  intro h7 s7
  obtain ⟨wv,zv,c0,c1⟩:=tT.at (i:=i) (j:=cols) oo oo
  refine ⟨_,_,_,rfl,N.le_le s7 (B6 _),_,rfl,oo,oo,_,_,_,_,C1 s7.le c0,C1 s7.le c1,?_⟩
  refine s7.call (O2 (gl.mono (B0 D O)).tz (Cu _ _ _ _ tT.sep.le zv) (Cu _ _ _ _ O iw) (ah _ _ oo oo) V oo ?_)
  intro w9 g9 l9 i9 h9 s9
  rw [aj i H oo] at i9
  refine ⟨_,_,_,_,_,_,_,_,rfl,s7.le_le s9 l9,_,rfl,oo,oo,?_⟩
  refine S5 Eg (y:=w9) rfl s9 ad (i:=cs.getD i 0) oo ?_
  intro a2 am a3 a0 ak ae
  rw [wiS i oo]
  exact ⟨⟨i+1,g9,am,_,oo,rfl,B0 O l9,ak,ae,gz0,(af.mono G1 l9).upd oo i9⟩,by simp only [Y2];omega⟩
 ·have:i=cs.length:=oo
  subst this
  exact av b2 q (B0 D (B0 O N.le)) ⟨a,ad.rowB.slF N.ole,hy,af.mono G1 N.le⟩
end
section
variable {h:aE} {K:VP} {A:Option aG} {n cap m w:Nat} {r c:Int} {ls:Nat->List UInt8} {R:Nat->Nat->Rat}
def Od{α:Type}[E:Enc α]{o:aE}{b:Nat}{e:aK}{c:Nat}{zx:α}:OwnSl (o.put b (.cells ((aI c zx).flatMap enc).toArray e)) e (some ⟨b,0,none⟩) c ([]:List α):=
 ⟨aQ _,.inr ⟨b,_,rfl,C2 _ _ _,by rw [K4,bL],by simp⟩⟩
end
def Br.nt{X Y:Prop}(y:Y):Br (!true) X Y:=y
def Xp{X Y:Prop}(x:X):Br (!false) X Y:=x
structure MOut where
 r:Int
 c:Int
 n:Nat
 f:Nat->List UInt8
 e:Int
def noM(e:Int):MOut:=⟨0,0,0,fun _=>[],e⟩
section
variable {h:aE} {K:VP} {A B:Option aG} {n n2 cap cap2 m w:Nat} {r c r2 c2:Int} {la lb:Nat->List UInt8}
end
structure VV where
 A:Option aG
 n:Nat
 c:Nat
 s:Bool
 B:Option aG
 bn:Nat
 bc:Nat
abbrev VV.v(w:VV):aP:=.agg #[.slice w.A w.n w.c,.bool w.s,.slice w.B w.bn w.bc]
instance:Enc VV:=⟨⟨fun w=>[.slice w.A w.n w.c,.bool w.s,.slice w.B w.bn w.bc],3,fun _=>rfl,fun w v hv=>by
 simp only [List.mem_cons,List.not_mem_nil,or_false] at hv
 rcases hv with rfl|rfl|rfl<;>rfl⟩⟩
def VQr(w:Nat):aE->VV->(Nat->Rat)->Prop:=fun h v f=>v.n=w/\ZI h v.s v.B v.bn v.bc (Bu f w:Int)/\RowV ZIr h v.A w (fun j=>scl (f j) (Bu f w:Int))
def A5f(w:Nat):Mon (VQr w):=fun _ _ _ _ l i=>⟨i.1,i.2.1.mono l,i.2.2.mono Cu l⟩
section
variable {h:aE} {K:VP} {A B:Option aG} {n cap m w:Nat} {f f2:Nat->Rat}
def A2e(gl:Gl h)(r:RowV RQr h A n f)(hn:n<=10000)(hs:∀ i,i<n->Sz m (f i))(hm:1+n*m+m<=6400000000)
 (hK:∀ v h',h.le h'->VQr n h' v f->K v.v h'):aJ prog 268 #[.slice A n cap] h K:=by
 refine (fnk func268 [(3,[14],[],[I 0])] (os:=[(1,[0,1,3,6,2,4,5,7])]) (al:=[(1,[(2,[4])])]) (own:=[2,3,5])) ?_
 have hd:=Jc (f:=f) n hs
 refine ⟨?_,?_⟩
 ·refine J2 tZs (zx:=(⟨false,none,0,0⟩:IV)) rfl oo oo oo oo ?_
  intro b Q
  simp only [bJ]
  have W:=(Sep.refl h).new Q (.cells ((aI n (⟨false,none,0,0⟩:IV)).flatMap enc).toArray 219)
  refine ⟨_,_,_,rfl,W.le,W.call (Cx gl r oo hs hm ?_)⟩
  intro N Bd R bc B t id h1 E
  refine ⟨_,_,_,_,rfl,W.le_le E t,?_⟩
  refine ⟨fun L p=>∃ (k:Nat) (g o:aE) (l:List IV),k<=n/\L=[I (k:Int)]/\B.le g/\Sep p g o/\RowX o b l/\l.length=n/\Row ZIr g l k (fun j=>scl (f j) (Bu f n:Int)),fun L _=>n-(iAt L 0).toNat,⟨0,B,_,aI n ⟨false,none,0,0⟩,oo,rfl,B6 _,E,RowX.mk,bL,Row.nil⟩,?_⟩
  rintro z p ⟨k,g,o,l,hk,eL,e,s,F,D,C⟩
  obtain rfl:=sI1 eL
  refine C0 (fun M=>?_) (fun G=>?_)
  ·have c:k<n:=oo
   obtain ⟨a,w,ea,H,c0,c1,c2,c3⟩:=(r.mono G1 (B0 t e)).qat c
   refine ⟨a,ea,oo,oo,_,_,_,_,_,_,_,_,C1 s.le c0,C1 s.le c1,C1 s.le c2,C1 s.le c3,?_⟩
   refine s.call (Ir (m:=1+n*m+m) H (id.mono e) ((hs k c).mono oo) (hd.mono oo) hm ?_)
   intro V A2 n2 c2 S u O h2 d
   refine ⟨_,_,_,_,rfl,s.le_le d u,_,rfl,oo,oo,?_⟩
   refine S5 Qi (y:=(⟨V,A2,n2,c2⟩:IV)) rfl d F (i:=k) oo ?_
   intro h7 X x7 eo T q
   rw [wiS k oo]
   exact ⟨⟨k+1,S,X,_,oo,rfl,B0 e u,T,q,by rw [List.length_set];exact D,(C.mono Cu u).set oo O⟩,by simp only [Y2];omega⟩
  ·have:k=n:=oo
   subst this
   exact hK ⟨some ⟨b,0,none⟩,k,k,N,Bd,R,bc⟩ p (B0 t (B0 e s.le)) ⟨rfl,id.mono (B0 e s.le),l,F.rowB.slF s.ole,D,C.mono Cu s.le⟩
 ·refine Cx gl r oo hs hm ?_
  intro N Bd R bc B t id
  refine ⟨_,_,_,_,rfl,t,J2 tZs (zx:=(⟨false,none,0,0⟩:IV)) rfl oo oo oo oo ?_⟩
  intro b Q
  simp only [bJ]
  have E:=(Sep.refl B).new Q (.cells ((aI n (⟨false,none,0,0⟩:IV)).flatMap enc).toArray 219)
  refine ⟨_,_,_,rfl,E.le,?_⟩
  refine ⟨fun L p=>∃ (k:Nat) (g o:aE) (l:List IV),k<=n/\L=[I (k:Int)]/\B.le g/\Sep p g o/\RowX o b l/\l.length=n/\Row ZIr g l k (fun j=>scl (f j) (Bu f n:Int)),fun L _=>n-(iAt L 0).toNat,⟨0,B,_,aI n ⟨false,none,0,0⟩,oo,rfl,B6 _,E,RowX.mk,bL,Row.nil⟩,?_⟩
  rintro z p ⟨k,g,o,l,hk,eL,e,s,F,D,C⟩
  obtain rfl:=sI1 eL
  refine C0 (fun M=>?_) (fun G=>?_)
  ·have c:k<n:=oo
   obtain ⟨a,w,ea,H,c0,c1,c2,c3⟩:=(r.mono G1 (B0 t e)).qat c
   refine ⟨a,ea,oo,oo,_,_,_,_,_,_,_,_,C1 s.le c0,C1 s.le c1,C1 s.le c2,C1 s.le c3,?_⟩
   refine s.call (Ir (m:=1+n*m+m) H (id.mono e) ((hs k c).mono oo) (hd.mono oo) hm ?_)
   intro V A2 n2 c2 S u O h2 d
   refine ⟨_,_,_,_,rfl,s.le_le d u,_,rfl,oo,oo,?_⟩
   refine S5 Qi (y:=(⟨V,A2,n2,c2⟩:IV)) rfl d F (i:=k) oo ?_
   intro h7 X x7 eo T q
   rw [wiS k oo]
   exact ⟨⟨k+1,S,X,_,oo,rfl,B0 e u,T,q,by rw [List.length_set];exact D,(C.mono Cu u).set oo O⟩,by simp only [Y2];omega⟩
  ·have:k=n:=oo
   subst this
   exact hK ⟨some ⟨b,0,none⟩,k,k,N,Bd,R,bc⟩ p (B0 t (B0 e s.le)) ⟨rfl,id.mono (B0 e s.le),l,F.rowB.slF s.ole,D,C.mono Cu s.le⟩
def smZ(x y:Nat->Int):Nat->Int
 | 0=>0
 | k+1=>smZ x y k+x k*y k
def smA(x y:Nat->Int):Nat->Int
 | 0=>0
 | k+1=>smA x y k+(x k*y k).natAbs
def B2j{x y:Nat->Int}{m w:Nat}(hx:∀ j,j<w->ZB m (x j))(hy:∀ j,j<w->ZB m (y j)):∀ k,k<=w->smA x y k<=k*2^(2*m):=by
 intro k
 induction k with
 | zero=>intro _;simp [smA]
 | succ k ih=>
  intro c
  have d:=ih o
  have b:=A26 (hx k o) (hy k o)
  have a:((k+1:Nat):Int)*2^(2*m)=(k:Int)*2^(2*m)+2^(2*m):=by rw [Int.natCast_add,Int.add_mul];simp
  show smA x y k+((x k*y k).natAbs:Int)<=_
  rw [a]
  omega
def B3v(x y:Nat->Int):∀ k,((smZ x y k).natAbs:Int)<=smA x y k:=by
 intro k
 induction k with
 | zero=>exact Int.le_refl _
 | succ k ih=>
  show ((smZ x y k+x k*y k).natAbs:Int)<=smA x y k+((x k*y k).natAbs:Int)
  omega
def B6d{x y:Nat->Int}{m w:Nat}(hx:∀ j,j<w->ZB m (x j))(hy:∀ j,j<w->ZB m (y j))(hw:w<=10000):ZB (2*m+14) (smZ x y w):=by
 have b:=B2j hx hy w (aF _)
 have c:=B3v x y w
 have e:(2:Int)^(2*m)=((2^(2*m):Nat):Int):=by simp
 rw [e,<- cG] at b
 have f:w*2^(2*m)<=10000*2^(2*m):=aD _ hw
 have a:2^(2*m+14)=2^(2*m)*16384:=by rw [Nat.pow_add]
 have d:0<2^(2*m):=cN dc
 unfold ZB
 rw [a]
 omega
def B6e{p q:Nat->Rat}{x y:Nat->Int}{d e:Int}{w:Nat}(hx:∀ j,j<w->(x j:Rat)=p j*d)(hy:∀ j,j<w->(y j:Rat)=q j*e):∀ k,k<=w->(smZ x y k:Rat)=sm k (fun j=>p j*q j)*((d*e:Int):Rat):=by
 intro k
 induction k with
 | zero=>intro _;show ((0:Int):Rat)=0*_;rw [cJ];rfl
 | succ k ih=>
  intro a
  show ((smZ x y k+x k*y k:Int):Rat)=(sm k (fun j=>p j*q j)+p k*q k)*((d*e:Int):Rat)
  rw [Rat.intCast_add,ih o,aN d e,aN (x k) (y k),hx k o,hy k o]
  grind
def A4t{v u:VV}(gl:Gl h)(iv:VQr w h v f)(iu:VQr w h u f2)(hw:w<=10000)(hs:∀ i,i<w->Sz m (f i))(hs2:∀ i,i<w->Sz m (f2 i))(hm1:1<=m)(hm:2*(1+w*m+m)+14<=100000000)
 (hK:∀ q h',h.le h'->RQ h' q (sm w (fun j=>f j*f2 j))->K q.v h'):aJ prog 230 #[v.v,u.v] h K:=by
 refine (fnk func230 [(3,[11],[],[I 0])] (os:=[(7,[1,2,3,4,0,5,6,7])]) (own:=[2,3,4,7]) (wr:=[255])) ?_
 obtain ⟨ad,D,F⟩:=iv
 obtain ⟨aa,B,A⟩:=iu
 have d:=Jc (f:=f) w hs
 have c:=Jc (f:=f2) w hs2
 have E:∀ j,j<w->ZB (1+w*m+m) (scl (f j) (Bu f w:Int)):=fun j e=>(A74 (hs j e) d).mono o
 have C:∀ j,j<w->ZB (1+w*m+m) (scl (f2 j) (Bu f2 w:Int)):=fun j e=>(A74 (hs2 j e) c).mono o
 refine Ck A3g ?_
 intro bs s
 have Z0:SumS (h.put bs (.cells #[.slice none 0 0,.slice none 0 0] 345)) h bs 345 200000001 0 0:=SumS.zero s
 refine ⟨_,rfl,fun L O=>∃ (k:Nat) (g:aE),k<=w/\L=[I (k:Int)]/\h.le g/\SumS O g bs 345 200000001 (smA (fun j=>scl (f j) (Bu f w:Int)) (fun j=>scl (f2 j) (Bu f2 w:Int)) k) (smZ (fun j=>scl (f j) (Bu f w:Int)) (fun j=>scl (f2 j) (Bu f2 w:Int)) k),fun L _=>w-(iAt L 0).toNat,⟨0,h,o,rfl,B6 _,Z0⟩,?_⟩
 rintro z O ⟨k,g,hk,eL,r,Z⟩
 obtain rfl:=sI1 eL
 refine C0 (fun W=>?_) (fun T=>?_)
 ·have b:k<w:=o
  obtain ⟨a,x1,ea,Q,c0,c1⟩:=(F.mono Cu r).zat b
  obtain ⟨a2,y1,t,M,d0,d1⟩:=(A.mono Cu r).zat b
  refine ⟨a,ea,o,o,_,_,_,_,C1 Z.le c0,C1 Z.le c1,a2,t,o,o,_,_,_,_,C1 Z.le d0,C1 Z.le d1,?_⟩
  have lx:x1.n<=100000000:=ZI.len Q (E k b) o
  have ly:y1.n<=100000000:=ZI.len M (C k b) o
  have hA:=B2j E C (k+1) b
  have S:=A7p (m:=1+w*m+m) (k:=k+1) o o
  refine Af Z Q M o o (N1:=1+w*m+m) (by show smA _ _ (k+1)<_;omega) o ?_
  intro h3 g3 l3 Z3
  rw [wiS k o]
  exact ⟨rfl,⟨k+1,g3,o,rfl,B0 r l3,Z3⟩,by simp only [Y2];omega⟩
 ·have:k=w:=o
  subst this
  refine Kb Z o ?_
  intro sv Av nv cv h5 H X
  have l:=B0 r (B0 Z.le H)
  refine ⟨_,_,_,_,rfl,H,?_⟩
  refine O6 (m:=1+k*m+m) (D.mono l) (B.mono l) (d.mono o) (c.mono o) o ?_
  intro s6 A6 n6 c6 h6 G z6
  refine ⟨_,_,_,_,rfl,G,?_⟩
  have p:=B0 l G
  have e1:∀ j,j<k->(scl (f j) (Bu f k:Int):Rat)=f j*((Bu f k:Int):Rat):=fun j e=>A75 (Int.natCast_dvd_natCast.2 (Wm f k j e))
  have e2:∀ j,j<k->(scl (f2 j) (Bu f2 k:Int):Rat)=f2 j*((Bu f2 k:Int):Rat):=fun j e=>A75 (Int.natCast_dvd_natCast.2 (Wm f2 k j e))
  have es:=B6e e1 e2 k (aF _)
  have V:=Wl f k
  have ac:=Wl f2 k
  have y:((Bu f k:Int)*(Bu f2 k:Int))≠0:=Int.mul_ne_zero o o
  have zb:ZB (2*(1+k*m+m)+14) (smZ (fun j=>scl (f j) (Bu f k:Int)) (fun j=>scl (f2 j) (Bu f2 k:Int)) k):=B6d E C o
  refine O2 (m:=2*(1+k*m+m)+14) (gl.mono p).tz (X.mono G) z6 zb ((d.mul c).mono o) o ?_
  intro q h7 R N
  refine ⟨_,_,_,_,_,_,_,_,rfl,R,hK q h7 (B0 p R) ?_⟩
  have:aS (smZ (fun j=>scl (f j) (Bu f k:Int)) (fun j=>scl (f2 j) (Bu f2 k:Int)) k) ((Bu f k:Int)*(Bu f2 k:Int))=sm k (fun j=>f j*f2 j):=by
   rw [bH,es]
   exact Rat.mul_div_cancel (O9 y)
  rw [this] at N
  exact N
end
def B0j:prog.cellsOf 319=1/\(prog.info? 319).isSome=true:=by constructor<;>kernel_rfl
section
variable {h:aE} {K:VP} {A:Option aG} {cap m rows cols:Nat} {E:Nat->Rat}
def Ok(gl:Gl h)(r:RowV RQr h A (rows*cols) E)(hcap:rows*cols<=cap)(hr2:rows<=10000)(hc:1<=cols)(hc2:cols<=10000)(hs:∀ i,i<rows*cols->Sz m (E i))(hm:1+cols*m+m<=6400000000)
 (hK:∀ A' c' h',h.le h'->RowV (VQr cols) h' A' rows (A1v E cols)->K (.slice A' rows c') h'):aJ prog 229 #[.slice A (rows*cols) cap,I (cols:Int)] h K:=by
 refine (fnk func229 (rs:=[(4,[.slice none 0 0])]) (wr:=[1000000000])) ?_
 have ac:rows*cols<=100000000:=by
  have:rows*cols<=10000*10000:=aW hr2 hc2
  omega
 refine Ck (z:=.slice none 0 0) (by kernel_rfl) ?_
 intro q N
 refine ⟨_,rfl,?_⟩
 have s0:=(Sep.refl h).new N (.cells #[.slice none 0 0] 319)
 refine s0.call (Us hc ?_)
 intro v R T ic ae s3
 have bound:∀ k,k<rows->∀ j,j<cols->Sz m (E (k*cols+j)):=fun k hk j hj=>hs _ (Q4 hk hj)
 refine ⟨_,rfl,Qt ic hc o hcap (fun k S=>∃ (t s:aE) (n:List VV) (A1:Option aG) (c1:Nat),R.le t/\Sep S t s/\(∃ e,s q=some (.cells #[.slice A1 k c1] e))/\OwnSl s 322 A1 c1 n/\A1≠some ⟨q,0,none⟩/\n.length=k/\Row (VQr cols) t n k (A1v E cols)) ?_ ?_ ?_ ?_⟩
 ·exact ⟨R,_,[],none,0,B6 _,s3,⟨_,C2 _ _ _⟩,OwnSl.nil,by simp,rfl,Row.nil⟩
 ·rintro k S ⟨t,s,n,A1,c1,lg,s1,_⟩
  exact B0 lg s1.le
 ·rintro k d u ⟨t,s,n,A1,c1,f,g,⟨e,a⟩,L,W,p,H⟩
  have bk:=bound k u
  have ad:(k+1)*cols<=rows*cols:=aD _ u
  have aa:(k+1)*cols=k*cols+cols:=by rw [aY,cO]
  have C:=B0 T f
  have B:RowV RQr h A ((k+1)*cols) E:=by
   have:=r.cut (c:=cap) (l:=0) (k:=(k+1)*cols) o hcap
   rw [G9] at this
   exact this.congr fun i _=>by rw [aH]
  have D:RowV RQr h (T9 A ((k+1)*cols) (k*cols) 4) cols (A1v E cols k):=B.cut (c:=(k+1)*cols) (l:=k*cols) (k:=cols) o (aF _)
  have cp:d.cell? ⟨q,0,none⟩=some (.slice A1 k c1):=g.cell (by unfold Heap.cell?;simp only [a];rfl)
  refine ⟨_,_,_,rfl,_,_,_,cp,g.call (A2e (gl.mono C) (D.mono G1 C) o bk hm ?_)⟩
  intro w g2 O iw F X
  refine ⟨_,_,_,_,_,_,_,rfl,g.le_le X O,?_⟩
  subst p
  refine OwnSl.push (ty:=319) B9c X L (y:=w) (v:=w.v) rfl dc o o (K1:=fun hq=>F.le hq) (fun _ l=>l) ?_
  intro A3 c3 h6 g6 o6 Q s6 G kp
  have M:=kp q _ a W
  show wpH _ (aO _ (.pointer (some (aC ⟨q,0,none⟩ 0))) _) _ _
  refine Xl B0j rfl rfl s6 M.1 (by simp) ?_
  intro h7 o7 s7 V
  exact ⟨g6,o7,n++[w],A3,c3,B0 f (B0 O Q),s7,⟨e,by rw [V,C2];simp⟩,G.keep fun b y hb he=>by rw [V,B7 _ _ (fun e=>M.2 (by rw [<- e];exact hb))];exact he,M.2,by simp,by
   have:=(Row.push (H.mono (A5f cols) (B0 O Q)) (A5f cols _ _ _ _ Q iw))
   simpa using this⟩
 ·rintro d ⟨t,s,n,A1,c1,f,g,⟨e,a⟩,L,W,p,H⟩
  have cp:d.cell? ⟨q,0,none⟩=some (.slice A1 rows c1):=g.cell (by unfold Heap.cell?;simp only [a];rfl)
  exact ⟨_,_,_,cp,hK A1 c1 d (B0 T (B0 f g.le)) ⟨n,L.slF g.ole,p,H.mono (A5f cols) g.le⟩⟩
end
section
variable {h:aE} {K:VP} {A B:Option aG} {n n2 cap cap2 m:Nat} {r c r2 c2:Int} {la lb:Nat->List UInt8} {w:QV} {q:Rat}
end
section
variable {h:aE} {K:VP} {A B:Option aG} {n w cap cap2 m:Nat} {f f2:Nat->Rat} {R:Nat->Nat->Rat}
def Qn(hs:∀ i,i<w->Sz m (f i))(hs2:∀ i,i<w->Sz m (f2 i)):∀ k,k<=w->Sz (1+k*(2*m+1)) (sm k (fun j=>f j*f2 j)):=by
 intro k
 induction k with
 | zero=>intro _;exact Sz.zero o
 | succ k ih=>
  intro c
  have b:=ih o
  have a:=(hs k o).mul (hs2 k o)
  have e:1+(k+1)*(2*m+1)=1+k*(2*m+1)+(m+m)+1:=by rw [aY];omega
  rw [e]
  exact b.add a
def A8p(ra:RowV NQr h A w f)(rb:RowV NQr h B w f2)(hw:w<=10000)(hs:∀ i,i<w->Sz m (f i))(hs2:∀ i,i<w->Sz m (f2 i))(hm:1+w*(2*m+1)+2*m<=400000000)
 (hK:∀ v h',h.le h'->NQ h' v (sm w (fun j=>f j*f2 j))->K v.v h'):aJ prog 18 #[.slice A w cap,.slice B w cap2] h K:=by
 refine (fnk func18 [(3,[6],[(5,4)],[I 0,.bool false,.slice none 0 0,.bool false,.slice none 0 0])] (own:=[4,5])) ?_
 refine ⟨fun L y=>∃ (k:Nat) (v:QV),k<=w/\L=I (k:Int)::qc v/\h.le y/\NQ y v (sm k (fun j=>f j*f2 j)),fun L _=>w-(iAt L 0).toNat,⟨0,S8,o,rfl,B6 _,NQ.zero⟩,?_⟩
 rintro z D t g r C e q p y ⟨k,v,F,u,l,H⟩
 simp only [cV,Value.int.injEq,true_and] at u
 obtain ⟨rfl,u⟩:=u
 obtain ⟨rfl,_⟩:=A55 (by simpa only [cV,Value.bool.injEq,Value.slice.injEq,and_true] using u:(.bool D:aP) :: .slice t g r :: .bool C :: .slice e q p::[]= .bool v.s :: .slice v.A v.n v.c :: .bool v.s2 :: .slice v.A2 v.n2 v.c2::[])
 refine C0 (fun O=>?_) (fun M=>?_)
 ·have d:k<w:=o
  obtain ⟨a5,w5,N,Q,c0,c1,c2,c3⟩:=(ra.mono F3 l).qat d
  obtain ⟨a6,T,X,n6,g0,g1,W,g3⟩:=(rb.mono F3 l).qat d
  have R:k*(2*m+1)<=w*(2*m+1):=aD _ F
  refine ⟨a5,N,o,o,_,_,_,_,_,_,_,_,c0,c1,c2,c3,a6,X,o,o,_,_,_,_,_,_,_,_,g0,g1,W,g3,?_⟩
  refine Bk (a:=w5) (b:=T) Q n6 (hs k d) (hs2 k d) o ?_
  intro V h7 E i7
  refine ⟨_,_,_,_,_,_,_,_,rfl,E,?_⟩
  refine Dm (a:=⟨D,t,g,r,C,e,q,p⟩) (b:=V) (m:=1+k*(2*m+1)+2*m) (NQ.mono E H) i7 ((Qn hs hs2 k F).mono o) (((hs k d).mul (hs2 k d)).mono o) o ?_
  intro w8 h8 G S
  rw [wiS k o]
  refine ⟨_,_,_,_,_,_,_,_,rfl,G,⟨k+1,w8,o,rfl,B0 l (B0 E G),S⟩,?_⟩
  show w-((k+1:Nat):Int).toNat<w-(k:Int).toNat
  omega
 ·have:k=w:=o
  subst this
  exact hK ⟨D,t,g,r,C,e,q,p⟩ y l H
end
structure VOut where
 n:Nat
 f:Nat->List UInt8
 e:Int
def noV(e:Int):VOut:=⟨0,fun _=>[],e⟩
section
variable {h:aE} {K:VP} {A B:Option aG} {n n2 cap cap2 m:Nat} {r c:Int} {la lx:Nat->List UInt8}
end
section
variable {h:aE} {K:VP} {A B:Option aG} {n n2 cap cap2 m:Nat} {r c:Int} {la lx:Nat->List UInt8}
def RowV.vat{w n:Nat}{f:Nat->Nat->Rat}(r:RowV (VQr w) h A n f){i:Nat}(hi:i<n):∃ a v,A=some a/\VQr w h v (f i)/\h.cell? (aC (aC a (i*3)) 0)=some (.slice v.A v.n v.c)/\h.cell? (aC (aC a (i*3)) 1)=some (.bool v.s)/\h.cell? (aC (aC a (i*3)) 2)=some (.slice v.B v.bn v.bc):=by
 obtain ⟨a,v,e,q,b⟩:=RowV.at dc r hi
 exact ⟨a,v,e,q,b 0 _ rfl,b 1 _ rfl,b 2 _ rfl⟩
end
def C1q(r c:Int)(n:Nat)(la:Nat->List UInt8)(r2 c2:Int)(n2:Nat)(lb:Nat->List UInt8)(o:MOut):Prop:=
 (¬ (Mx r c n la/\Mx r2 c2 n2 lb)/\o=noM 1)\/(Mx r c n la/\Mx r2 c2 n2 lb/\c≠r2/\o=noM 4)\/(∃ rows mid cols,MOk r c n la rows mid/\MOk r2 c2 n2 lb mid cols/\o=⟨r,c2,rows*cols,fun k=>E7 (sm mid (fun j=>mtx (rvs la) mid (k/cols) j*mtx (rvs lb) cols j (k%cols))),0⟩)
def A5p{f f':Nat->Rat}: ∀ n,(∀ i,i<n->f i=f' i)->Bu f n=Bu f' n:=by
 intro n
 induction n with
 | zero=>intro _;rfl
 | succ n ih=>
  intro e
  show cW (Bu f n) (f n).den=cW (Bu f' n) (f' n).den
  grind
def VQr.congr{h:aE}{w:Nat}{v:VV}{f f':Nat->Rat}(x:VQr w h v f)(e:∀ i,i<w->f i=f' i):VQr w h v f':=by
 have d:Bu f w=Bu f' w:=A5p w e
 obtain ⟨a,b,c⟩:=x
 rw [d] at b c
 exact ⟨a,b,c.congr fun j g=>gz0⟩
section
variable {h:aE} {K:VP} {A B:Option aG} {n n2 cap cap2 m:Nat} {r c r2 c2:Int} {la lb:Nat->List UInt8} {E:Nat->Rat}
def Kt{rows cols:Nat}(rv':RowV RQr h A (rows*cols) E)(hr:rows<=10000)(hc:cols<=10000)
 (hK:∀ A' c' h' g' o' xs,h.le g'->Sep h' g' o'->OwnSl o' 244 A' c' xs->xs.length=rows*cols->Row RQr g' xs (rows*cols) (fun k=>E (k%rows*cols+k/rows))->K (.slice A' (rows*cols) c') h'):aJ prog 156 #[.slice A (rows*cols) cap,I (rows:Int),I (cols:Int)] h K:=by
 refine (fnk func156 [(3,[7,14],[],[.slice none 0 0,I 0]),(6,[7,18],[],[.slice none 0 0,I 0])]) ?_
 have W:rows*cols<=10000*10000:=aW hr hc
 refine J2 Xq (zx:=S8) rfl oo oo oo oo ?_
 intro b X
 refine ⟨_,_,_,rfl,fun L u=>∃ (j:Nat) (g o:aE) (xs:List QV) (A':Option aG) (c':Nat),j<=cols/\L=[.slice A' (j*rows) c',I (j:Int)]/\h.le g/\Sep u g o/\OwnSl o 244 A' c' xs/\xs.length=j*rows/\Row RQr g xs (j*rows) (fun k=>E (k%rows*cols+k/rows)),fun L _=>cols-(iAt L 1).toNat,
  ⟨0,h,Fe.put b _,[],some ⟨b,0,none⟩,rows*cols,oo,gz0,B6 _,Bc X,Od,by simp,by rw [dJ];exact Row.nil⟩,?_⟩
 rintro rA rn rc z u ⟨j,g,o,xs,A',c',hj,H,lg,s,ow,C,rr⟩
 obtain ⟨⟨rfl,rfl,rfl⟩,rfl⟩:=H
 refine C0 (fun V=>?_) (fun S=>?_)
 ·have t:j<cols:=oo
  have p:(j+1)*rows=j*rows+rows:=gz0
  have M:(j+1)*rows<=cols*rows:=aD _ t
  rw [cC cols rows] at M
  refine ⟨fun L u=>∃ (i:Nat) (g o:aE) (xs:List QV) (A':Option aG) (c':Nat),i<=rows/\L=[.slice A' (j*rows+i) c',I (i:Int)]/\h.le g/\Sep u g o/\OwnSl o 244 A' c' xs/\xs.length=j*rows+i/\Row RQr g xs (j*rows+i) (fun k=>E (k%rows*cols+k/rows)),fun L _=>rows-(iAt L 1).toNat,
   ⟨0,g,o,xs,rA,rc,oo,rfl,lg,s,ow,C,rr⟩,?_⟩
  rintro qA qn qc z aa ⟨i,g2,o2,B,A2,c2,hi,H,d,m,r,c,e⟩
  obtain ⟨⟨rfl,rfl,rfl⟩,rfl⟩:=H
  refine C0 (fun Q=>?_) (fun O=>?_)
  ·have l:i<rows:=oo
   have q:=Q4 l t
   have ew:C3 (C3 ((i:Int)*(cols:Int))+(j:Int))=((i*cols+j:Nat):Int):=by
    rw [<- cG,K3 oo]
    exact K3 (n:=i*cols+j) oo
   rw [ew]
   obtain ⟨a,w,ea,T,c0,c1,D,c3⟩:=(rv'.mono G1 d).qat q
   refine ⟨a,ea,oo,oo,_,_,_,_,_,_,_,_,C1 m.le c0,C1 m.le c1,C1 m.le D,C1 m.le c3,?_⟩
   refine O5 (ty:=232) Xq m r c.symm (y:=w) rfl dc oo oo ?_
   intro A3 c3 h3 N o3 G s3 F _
   rw [c,wiS i oo]
   refine ⟨⟨i+1,N,o3,_,A3,c3,oo,by rw [Nat.add_assoc],B0 d G,s3,F,gz0,?_⟩,?_⟩
   ·have rB:=Row.push (R:=RQr) (g:=N) (xs:=B) (f:=fun k=>E (k%rows*cols+k/rows)) (by rw [c];exact e.mono G1 G) (w:=w) (by
     show RQ N w (E (B.length%rows*cols+B.length/rows))
     rw [c,bU (j*rows) i,aX,bY l,bK _ _ oo,bD l,aH]
     exact G1 _ _ _ _ G T)
    grind
   ·show rows-((i+1:Nat):Int).toNat<rows-(i:Int).toNat
    omega
  ·have:i=rows:=oo
   subst this
   rw [wiS j oo,<- p]
   rw [<- p] at c e
   refine ⟨⟨j+1,g2,o2,B,qA,qc,oo,rfl,d,m,r,c,e⟩,?_⟩
   show cols-((j+1:Nat):Int).toNat<cols-(j:Int).toNat
   omega
 grind
def Zn{rows cols:Nat}(rv':RowV RQr h A (rows*cols) E)(hr:rows<=10000)(hc:cols<=10000)
 (hK:∀ A' c' h',h.le h'->rows*cols<=c'->RowV RQr h' A' (rows*cols) (fun k=>E (k%rows*cols+k/rows))->K (.slice A' (rows*cols) c') h'):aJ prog 156 #[.slice A (rows*cols) cap,I (rows:Int),I (cols:Int)] h K:=
 Kt rv' hr hc fun A' c' h' _ _ d e s b a c=>hK A' c' h' (B0 e s.le) (by have:=b.1;omega) ⟨d,b.slF s.ole,a,c.mono G1 s.le⟩
def A5k{d:Nat}(gl:Gl h)(ra:RowV SSr h A n la)(rb:RowV SSr h B n2 lb)(hn:n<=1000000)(hn2:n2<=1000000)(hl:LL n la)(hl2:LL n2 lb)(hs:∀ i,i<n->Sz m (rv (la i)))(hs2:∀ i,i<n2->Sz m (rv (lb i)))(hm1:1<=m)(hd:∀ rows mid,MOk r c n la rows mid->mid<=d)(hm:2*(1+d*(2*m+1)+2*m)+14<=40000000)
 (hK:∀ o,C1q r c n la r2 c2 n2 lb o->∀ A' cap' h',h.le h'->RowV SSr h' A' o.n o.f->K (.tuple #[Hy o.r o.c A' o.n cap',I o.e]) h'):aJ prog 176 #[Hy r c A n cap,Hy r2 c2 B n2 cap2] h K:=by
 refine (fnk func176 [(11,[12,61],[],[.slice none 0 0,I 0]),(14,[12,67],[],[.slice none 0 0,I 0])] (os:=[(8,[0,1,2,3,4,6,7,5,8,9])]) (own:=[2,3,4,14,16])) ?_
 have W:¬ (Mx r c n la/\Mx r2 c2 n2 lb)->∀ h',h.le h'->K (.tuple #[Hy 0 0 none 0 0,I 1]) h':=fun hx h' l=>hK (noM 1) (.inl ⟨hx,rfl⟩) none 0 h' l RowV.nil
 refine U3 gl ra hn hl (fun rows mid mk b1 h1 own=>?_) (fun H h1 N=>⟨_,_,_,_,rfl,?_⟩)
 ·have N:=own.le
  refine ⟨_,_,_,_,rfl,U3 (gl.mono N) (rb.mono E8 N) hn2 hl2 (fun C p F b2 V D=>⟨_,_,_,_,rfl,Br.nt (Br.nt ?_)⟩) (fun H V l2=>⟨_,_,_,_,rfl,Br.nt (Xp (W (fun x=>H x.2) V (B0 N l2)))⟩)⟩
  have l2:=D.le
  have T:=B0 N l2
  refine E6 (fun e=>hK (noM 4) (.inr (.inl ⟨⟨_,_,mk⟩,⟨_,_,F⟩,e,rfl⟩)) none 0 V T RowV.nil) (fun e=>?_)
  obtain rfl:C=mid:=by have:=mk.ec;have:=F.er;omega
  have ad:=hK _ (.inr (.inr ⟨rows,C,p,mk,F,rfl⟩))
  obtain ⟨rfl,rfl,_,_,_,_,rfl,_⟩:=id mk
  obtain ⟨rfl,rfl,_,_,_,_,rfl,_⟩:=id F
  have ms:=A8c hs
  have ag:=A8c hs2
  have aj:=hd _ _ mk
  have a3:C*(2*m+1)<=d*(2*m+1):=aD _ aj
  have ax:C*m<=d*m:=aD _ aj
  have az:d*(2*m+1)=2*(d*m)+d:=gz0
  have a4:rows*p<=64*64:=aW oo oo
  refine Ok (m:=m) (gl.mono T) ((own.vis G1).mono G1 l2) (aF _) oo oo oo hs oo ?_
  intro A3 c3 h3 l3 av
  refine ⟨_,_,_,rfl,?_⟩
  refine Zn ((D.vis G1).mono G1 l3) oo oo ?_
  intro A4 c4 h4 l4 ai aa
  refine ⟨_,_,_,rfl,l4,?_⟩
  have af:=B0 T (B0 l3 l4)
  rw [cC C p] at aa ai ⊢
  refine Ok (m:=m) (gl.mono af) aa ai oo oo oo (fun i hi=>?_) oo ?_
  ·have an:i/C<p:=aL gz0
   exact hs2 _ (Q4 (cD i (show 0<C from oo)) an)
  intro A5 c5 h5 l5 al
  have aw:RowV (VQr C) h5 A5 p (fun j i=>mtx (rvs lb) p i j):=by
   obtain ⟨vs,sv,el,rr⟩:=al
   refine ⟨vs,sv,el,fun j hj=>?_⟩
   obtain ⟨w,e1,hw⟩:=rr j hj
   refine ⟨w,e1,?_⟩
   have:=VQr.congr (f':=fun i=>mtx (rvs lb) p i j) hw fun i hi=>?_
   ·exact this
   ·show rvs lb ((j*C+i)%C*p+(j*C+i)/C)=rvs lb (i*p+j)
    rw [bU (j*C) i,aX,bY hi,bK _ _ oo,bD hi,aH]
  refine ⟨_,_,_,rfl,l5,?_⟩
  have am:=B0 af l5
  have aq:=B0 l4 l5
  have ao:C3 ((rows:Int)*(p:Int))=((rows*p:Nat):Int):=by exact K3 oo
  rw [ao]
  refine J2 Xq (zx:=S8) rfl oo oo oo oo ?_
  intro b hb
  have sz:∀ i j,i<rows->j<p->Sz (1+d*(2*m+1)) (sm C (fun t=>mtx (rvs la) C i t*mtx (rvs lb) p t j)):=fun i j hi hj=>(Qn (f:=fun t=>mtx (rvs la) C i t) (f2:=fun t=>mtx (rvs lb) p t j) (fun t O=>ms i t hi O) (fun t O=>ag t j O hj) C (aF _)).mono oo
  refine ⟨_,_,_,rfl,fun L hp=>∃ (k:Nat) (g o:aE) (xs:List QV) (A':Option aG) (c':Nat),k<=rows/\L=[.slice A' (k*p) c',I (k:Int)]/\h5.le g/\Sep hp g o/\OwnSl o 244 A' c' xs/\xs.length=k*p/\Row RQr g xs (k*p) (fun k=>sm C (fun j=>mtx (rvs la) C (k/p) j*mtx (rvs lb) p j (k%p))),fun L _=>rows-(iAt L 1).toNat,
   ⟨0,h5,Fe.put b _,[],some ⟨b,0,none⟩,rows*p,oo,gz0,B6 _,Bc hb,Od,by simp,by rw [dJ];exact Row.nil⟩,?_⟩
  rintro rA rn rc z hp ⟨k,g,o,xs,A',c',hk,eL,lg,s,ow,ac,rr⟩
  obtain ⟨⟨rfl,rfl,rfl⟩,rfl⟩:=eL
  refine C0 (fun a2=>?_) (fun a7=>?_)
  ·have S:k<rows:=oo
   have ae:(k+1)*p=k*p+p:=gz0
   have a1:(k+1)*p<=rows*p:=aD _ S
   obtain ⟨a,v,ea,iv,c0,c1,ap⟩:=(av.mono (A5f C) (B0 aq lg)).vat S
   refine ⟨a,ea,oo,oo,_,_,_,_,_,_,_,C1 s.le c0,C1 s.le c1,C1 s.le ap,?_⟩
   refine ⟨fun L hp=>∃ (j:Nat) (g' o:aE) (xs:List QV) (A':Option aG) (c':Nat),j<=p/\L=[.slice A' (k*p+j) c',I (j:Int)]/\g.le g'/\Sep hp g' o/\OwnSl o 244 A' c' xs/\xs.length=k*p+j/\Row RQr g' xs (k*p+j) (fun k=>sm C (fun j=>mtx (rvs la) C (k/p) j*mtx (rvs lb) p j (k%p))),fun L _=>p-(iAt L 1).toNat,
    ⟨0,g,o,xs,rA,rc,oo,rfl,B6 _,s,ow,ac,rr⟩,?_⟩
   rintro qA qn qc z a5 ⟨j,g2,o2,ys,A2,c2,hj,eL,G,s2,ak,E,X⟩
   obtain ⟨⟨rfl,rfl,rfl⟩,rfl⟩:=eL
   refine C0 (fun a0=>?_) (fun ay=>?_)
   ·have M:j<p:=oo
    obtain ⟨a6,u,ar,iu,d0,d1,d2⟩:=(aw.mono (A5f C) (B0 lg G)).vat M
    refine ⟨a6,ar,oo,oo,_,_,_,_,_,_,_,C1 s2.le d0,C1 s2.le d1,C1 s2.le d2,?_⟩
    refine s2.call (A4t (m:=m) (v:=v) (u:=u) (gl.mono (B0 am (B0 lg G))) (A5f C _ _ _ _ G iv) iu oo (fun t O=>ms k t S O) (fun t O=>ag t j O M) hm1 oo ?_)
    intro q g7 l7 iq h7 s7
    refine ⟨_,_,_,_,_,_,_,_,rfl,?_⟩
    refine O5 (ty:=232) Xq s7 ak E.symm (y:=q) rfl dc oo oo ?_
    intro A8 c8 h8 g8 o8 l8 s8 au _
    rw [E,wiS j oo]
    refine ⟨⟨j+1,g8,o8,_,A8,c8,oo,by rw [Nat.add_assoc],B0 G (B0 l7 l8),s8,au,gz0,?_⟩,?_⟩
    ·have rB:=Row.push (R:=RQr) (g:=g8) (xs:=ys) (f:=fun k=>sm C (fun j=>mtx (rvs la) C (k/p) j*mtx (rvs lb) p j (k%p))) (by rw [E];exact X.mono G1 (B0 l7 l8)) (w:=q) (by
      show RQ g8 q (sm C (fun t=>mtx (rvs la) C (ys.length/p) t*mtx (rvs lb) p t (ys.length%p)))
      rw [E,bU (k*p) j,aX,bY M,bK _ _ oo,bD M,aH]
      exact G1 _ _ _ _ l8 iq)
     grind
    ·show p-((j+1:Nat):Int).toNat<p-(j:Int).toNat
     omega
   ·have:j=p:=oo
    subst this
    rw [wiS k oo,<- ae]
    rw [<- ae] at E X
    refine ⟨⟨k+1,g2,o2,ys,qA,qc,oo,rfl,B0 lg G,s2,ak,E,X⟩,?_⟩
    show rows-((k+1:Nat):Int).toNat<rows-(k:Int).toNat
    omega
  ·have:k=rows:=oo
   subst this
   have ah:=B0 am (B0 lg s.le)
   have rq:RowV RQr hp rA (k*p) (fun t=>sm C (fun j=>mtx (rvs la) C (t/p) j*mtx (rvs lb) p j (t%p))):=⟨xs,ow.slF s.ole,ac,rr.mono G1 s.le⟩
   refine Jb (m:=1+d*(2*m+1)) (gl.mono ah) rq oo (fun t O=>?_) oo ?_
   ·exact sz _ _ (aL gz0) (cD t (show 0<p from oo))
   intro b9 h9 Q
   exact ⟨_,_,_,_,_,rfl,ad _ _ h9 (B0 ah Q.le) (Q.vis E8)⟩
 ·refine U3 (gl.mono N) (rb.mono E8 N) hn2 hl2 (fun C p F b2 V D=>⟨_,_,_,_,rfl,Xp (W (fun x=>H x.1) V (B0 N D.le))⟩) (fun _ V l2=>⟨_,_,_,_,rfl,Xp (W (fun x=>H x.1) V (B0 N l2))⟩)
end
