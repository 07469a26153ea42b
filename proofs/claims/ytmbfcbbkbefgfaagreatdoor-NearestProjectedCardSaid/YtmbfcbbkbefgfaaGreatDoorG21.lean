/- A part. -/
import Derived.Test.YtmbfcbbkbefgfaaGreatDoorG20
import Derived.Test.YtmbfcbbkbefgfaaGreatDoorG09
import Derived.Test.YtmbfcbbkbefgfaaGreatDoorRows
import Derived.Lib.LaidTab
open Go.Proofs.Tryz
set_option linter.all false
open _root_.Array renaming replicate->cI
open Bool renaming eq_iff_iff->bJ
open Int renaming natAbs_natCast->aC,toNat_natCast->aG,sign_eq_one_of_pos->aJ,natCast_mul->aP,gcd->aS,mul_le_mul_of_nonneg_left->bH,natCast_pow->bI,pow_succ->bK,sign_eq_neg_one_of_neg->bN,le_of_lt->bZ,mul_ne_zero->cH,ofNat_tdiv->cM,mul_le_mul_of_nonneg_right->cX,pow_pos->cZ,tdiv_eq_ediv_of_dvd->dK,gcd_natCast_natCast->dL,mul_comm->dP
open List renaming replicate->aE,getElem?_eq_getElem->aH,getElem?_cons_zero->aI,length_append->aL,append_assoc->aR,getElem?_cons_succ->aT,exists_cons_of_ne_nil->aY,take_of_length_le->bC,takeWhile_append_dropWhile->bD,length_take->bF,eq_nil_of_length_eq_zero->bG,drop_zero->bM,length_drop->bX,length_map->cF,head?_cons->cG,take_append_drop->cJ,length_singleton->cK,mem_of_mem_take->cL,take_succ_eq_append_getElem->cR,length_cons->cU,getElem_mem->cV,getElem_map->cW,map_append->dB,append_nil->dC,getLast?_singleton->dI,append_cancel_left->dJ,takeWhile_sublist->dN,drop_of_length_le->dO
open List.cons renaming injEq->aD
open Nat renaming pow_le_pow_right->aM,gcd->aQ,lt_of_lt_of_le->aU,div_le_self->aZ,le_refl->bB,mul_one->bU,gcd_dvd_right->bV,sub_zero->bY,min_eq_left->cD,pow_le_pow_left->cN,add_sub_cancel->cO,pow_succ->cP,le_trans->cQ,div_one->cY,le_of_dvd->dG,gcd_pos_of_pos_right->dH,zero_add->dM
open Option.some renaming injEq->aW
open Rat renaming lt_iff->aX,divInt->bL,num_eq_zero->cC,intCast_add->dA,add->dD,ceil_eq_neg_floor_neg->dE
open _root_.Go.Value renaming int->bW
open _root_.Go.Value.int renaming injEq->aK
open _root_.Go.Value.slice renaming injEq->aO
open _root_.Go renaming Addr->aN,TypeId->bO
open _root_.Go.Proofs.YtmbfcbbkbefgfaaGreatDoor renaming FCall->aF,Heap->aV,Priv->cT,den_ne->dF
namespace Go.Proofs.YtmbfcbbkbefgfaaGreatDoor
set_option maxRecDepth 20000
open Go
def nv:List Nat->Nat
 | []=>0
 | c::r=>c+10^19*nv r
def B3k(ns:List Nat)(c:Nat):((nv (ns++[c]):Nat):Int)=(nv ns:Int)+cB^ns.length*(c:Int):=by
 induction ns with
 | nil=>simp [nv]
 | cons d r ih=>
  have e:((10^19:Nat):Int)=cB:=by decide
  simp only [List.cons_append,nv,cU,bK,Int.natCast_add,aP,ih,e]
  grind
def C6d{ns:List Nat}(h:∀ c∈ns,c<10^19):nv ns<10^(19*ns.length):=by
 induction ns with
 | nil=>simp [nv]
 | cons d r ih=>
  have b:=h d (by simp)
  have e:=ih fun c a=>h c (by simp [a])
  simp only [nv,cU]
  rw [show 19*(r.length+1)=19+19*r.length by omega,Nat.pow_add]
  have:=Nat.mul_le_mul_left (10^19) (show nv r+1<=10^(19*r.length) by omega)
  rw [Nat.mul_add] at this;omega
def C6c{ns:List Nat}(hne:ns≠[])(h:ns.getLast? ≠ some 0):nv ns≠0:=by
 induction ns with
 | nil=>exact absurd rfl hne
 | cons d r ih=>
  cases r with
  | nil=>simp at h;simp [nv];exact h
  | cons e s=>
   have:=ih (by simp) (by simpa [List.getLast?_cons_cons] using h)
   simp only [nv] at this ⊢
   have a:0<10^19*(e+10^19*nv s):=Nat.mul_pos (by decide) (by omega)
   omega
def B7v{c:Nat}:aE (19-(O1 c).length) 48++O1 c=pad 19 c:=by
 unfold O1 pad
 split
 ·rename_i h;subst h;rw [I6];rfl
 ·rfl
def B3g{c w:Nat}(h:c≠0):aE (w-(O1 c).length) 48++O1 c=pad w c:=by
 unfold O1 pad;rw [iN h]
def B0c{w n k:Nat}(h:n<10^k):(pad w n).length<=w+k:=by
 unfold pad
 have:=R5.2 h
 rw [aL,List.length_replicate];omega
def B1o(W:Nat)(ns:List Nat)(k:Nat):List UInt8:=if k<ns.length then pad (W-19*k) (nv (ns.drop k)) else []
def B73{W:Nat}{ns:List Nat}(h:∀ c∈ns,c<10^19)(k:Nat):(B1o W ns k).length<=W+19*ns.length:=by
 unfold B1o
 split
 ·have:=B0c (w:=W-19*k) (C6d (ns:=ns.drop k) fun c a=>h c (List.mem_of_mem_drop a))
  rw [bX] at this;omega
 ·simp
def B27{W:Nat}{ns:List Nat}(hb:∀ c∈ns,c<10^19)(ht:ns.getLast? ≠ some 0){j:Nat}(hj:j<ns.length):B1o W ns j=B1o W ns (j+1)++(aE ((if j+1=ns.length then max (O1 ns[j]).length (W-19*j) else 19)-(O1 ns[j]).length) 48++O1 ns[j]):=by
 have e:ns.drop j=ns[j]::ns.drop (j+1):=List.drop_eq_getElem_cons hj
 unfold B1o
 rw [iP hj,e]
 by_cases h:j+1=ns.length
 ·rw [iN (by omega),iP h,List.nil_append,dO (by omega)]
  have a:ns[j]≠0:=by
   intro b
   apply ht
   rw [List.getLast?_eq_getElem?,<- h,cO,aH hj,b]
  rw [show max (O1 ns[j]).length (W-19*j)-(O1 ns[j]).length=(W-19*j)-(O1 ns[j]).length by omega,B3g a]
  simp [nv]
 ·rw [iP (by omega),iN h,B7v]
  have f:nv (ns.drop (j+1))≠0:=by
   apply C6c
   ·intro d;have:=congrArg List.length d;rw [bX] at this;simp at this;omega
   ·rw [List.getLast?_drop,iN (by omega)];exact ht
  have:=A3p (w:=W-19*j) (h:=nv (ns.drop (j+1))) (l:=ns[j]) (k:=19) (hb _ (cV hj)) (.inl f)
  rw [Nat.sub_sub] at this
  rw [show 19*(j+1)=19*j+19 by omega,<- this]
  congr 1
  simp only [nv];rw [Nat.mul_comm];omega
def Priv.clear{h g:aV}{e:bO}{A:Option aN}{n c:Nat}{xs:List Value}(p:cT h g e 1 A n c xs):cT h g e 1 A 0 c []:=by
 obtain ⟨l,o,d⟩:=p
 refine ⟨by simp,by omega,?_⟩
 rcases d with d|⟨b,a,k,f,i,j,m⟩
 ·exact .inl d
 ·exact .inr ⟨b,a,k,f,i,j,by simp⟩
def nz(ns:List Nat):List Int:=ns.map fun (x:Nat)=>(x:Int)
def Bx(g:aV)(eT:bO)(A:Option aN)(n c:Nat)(l:List UInt8)(p:aN)(CA:Option aN)(ns:List Nat)(bl t:List UInt8)(tA:Option aN)(tn tc:Nat)(hp:aV):Prop:=
 ∃ e2 gA gB,Ext g eT A n c l t tA tn tc e2 gA hp/\cT gA gB B22 1 (some p) bl.length 20 (yv bl)/\g.le gB/\SlI .u64 gB CA (nz ns)
section
variable {h g:aV} {K:VP} {A CA:Option aN} {n c:Nat} {eT:bO} {l:List UInt8} {p:aN} {ns:List Nat}
def A80{bl t s:List UInt8}{tA tA':Option aN}{tn tc tn' tc':Nat}{e2 e3:bO}{gA gB g' hp hp':aV}(x:Ext g eT A n c l t tA tn tc e2 gA hp)(q:cT gA gB B22 1 (some p) bl.length 20 (yv bl))(lg:g.le gB)(sc:SlI .u64 gB CA (nz ns))(y:Ext gA e2 tA tn tc (l++t) s tA' tn' tc' e3 g' hp'):Bx g eT A n c l p CA ns bl (t++s) tA' tn' tc' hp':=by
 obtain ⟨a,b,d⟩:=q.after y.le
 exact ⟨e3,g',a,x.trans y,d,B0 lg b,sc.mono b⟩
def B8k{Invv2:LP}{muv2:LN}{tA:Option aN}{tn tc q:Nat}{first:Bool}{i1 size:Int}{bl t:List UInt8}{hp9 hp11:aV}(x:Bx g eT A n c l p CA ns bl t tA tn tc hp11)(hq:B5 (size-((bl.length:Nat):Int))=(q:Int))(hb:n+t.length+q+bl.length<=100000000000)
 (hK:∀ tA' tn' tc' hp',Bx g eT A n c l p CA ns bl (t++(aE q 48++bl)) tA' tn' tc' hp'->Invv2 [.slice tA' tn' tc',.bool false,I (B5 (i1-1))] hp'/\muv2 [.slice tA' tn' tc',.bool false,I (B5 (i1-1))] hp'<muv2 [.slice tA tn tc,.bool first,I i1] hp9):
 Bj prog Invv2 muv2 tA tn tc first i1 (some p) bl.length 20 size hp9 hp11:=by
 unfold Bj
 rw [hq]
 refine ⟨fun s m=>∃ (k:Nat) (tA:Option aN) (tn tc:Nat),s=[.slice tA tn tc,I k]/\k<=q/\Bx g eT A n c l p CA ns bl (t++aE k 48) tA tn tc m,fun s _=>q-(iAt s 1).toNat,⟨0,tA,tn,tc,rfl,by omega,by simpa using x⟩,?_⟩
 rintro N S G O r ⟨k,E,B,R,a,hk,e2,gA,X,ex,f,o,i⟩
 simp only [aD,aO,aK,and_true,true_and] at a
 obtain ⟨⟨rfl,rfl,rfl⟩,rfl⟩:=a
 have d:=ex.len
 rw [aL,List.length_replicate] at d
 refine B6 (fun L=>?_) (fun L=>?_)
 ·refine Gh (ch:=48) rfl ex.priv (by omega) ?_
  intro A' Z z W V u y
  rw [B7 (by omega) (by omega)]
  refine ⟨⟨k+1,_,_,_,rfl,by omega,?_⟩,by simp only [iAt,aI,aT];omega⟩
  have:=A80 ex f o i y
  rwa [aR,<- List.replicate_succ'] at this
 ·obtain rfl:k=q:=by omega
  refine ⟨fun s m=>∃ (tA:Option aN) (tn tc:Nat),s=[.slice tA tn tc]/\Bx g eT A n c l p CA ns bl (t++(aE k 48++bl)) tA tn tc m,?_,?_⟩
  ·refine Wb Eo ex.priv (Hy bl) (SlV.mono ex.priv.le f.slV) (A0o _) (by omega) (by omega) ?_ ?_
   ·intro T u b
    rw [<- U7] at b
    refine ⟨_,_,_,rfl,_,_,_,rfl,?_⟩
    have:=A80 ex f o i (s:=bl) ⟨B4 _,b,rfl,fun _=>⟨rfl,rfl,rfl⟩,id⟩
    rwa [aR] at this
   ·intro T A' z u V j b
    rw [<- U7] at b
    refine ⟨_,_,_,rfl,_,_,_,rfl,?_⟩
    have:=A80 ex f o i (s:=bl) ⟨j,b,rfl,fun e=>by omega,fun _=>rfl⟩
    rwa [aR] at this
  ·rintro D F Q w ⟨C,H,J,a,M⟩
   simp only [aD,aO,and_true] at a
   obtain ⟨rfl,rfl,rfl⟩:=a
   exact hK _ _ _ _ M
def B8i{W tn tc:Nat}{tA:Option aN}{t:List UInt8}{e2:bO}{gA hp9:aV}(x:Ext g eT A n c l t tA tn tc e2 gA hp9)(hW:W<=10000000000)(hb:tn<=10000000000)(hK:∀ A' n' c' e3 g' h',Ext g eT A n c l (t++aE W 48) A' n' c' e3 g' h'->K (.slice A' n' c') h'):Bi prog (W:Int) K tA tn tc hp9:=by
 unfold Bi
 refine ⟨fun s m=>∃ (k:Nat) (tA:Option aN) (tn' tc:Nat) (e3:bO) (g':aV),s=[.slice tA tn' tc,I k]/\k<=W/\tn'=tn+k/\Ext g eT A n c l (t++aE k 48) tA tn' tc e3 g' m,fun s _=>W-(iAt s 1).toNat,⟨0,tA,tn,tc,e2,gA,rfl,by omega,rfl,by simpa using x⟩,?_⟩
 rintro i w f e a ⟨k,d,j,r,e3,g',b,z,u,ex⟩
 simp only [aD,aO,aK,and_true,true_and] at b
 obtain ⟨⟨rfl,rfl,rfl⟩,rfl⟩:=b
 refine B6 (fun q=>?_) (fun q=>?_)
 ·refine Gh (ch:=48) rfl ex.priv (by omega) ?_
  intro A' n' c' p o h' y
  rw [B7 (by omega) (by omega)]
  refine ⟨⟨k+1,_,_,_,p,o,rfl,by omega,?_,?_⟩,by simp only [iAt,aI,aT];omega⟩
  ·have:=y.len;simp at this;omega
  ·have:=ex.trans y
   rwa [aR,<- List.replicate_succ'] at this
 ·obtain rfl:k=W:=by omega
  exact hK _ _ _ _ _ _ ex
def B8j{W cn:Nat}{tA:Option aN}{tn tc:Nat}{hp8:aV}{b:Nat}(gp:Gp g)(hp:p=⟨b,0,none⟩)(x:Bx g eT A n c l p CA ns [] [] tA tn tc hp8)(hcn:cn=ns.length)(hb:∀ c∈ns,c<10^19)(ht:ns.getLast? ≠ some 0)(hW:W<=1000000000)(hn:n<=1000000000)(hnl:ns.length<=1000000000)
 (hK:∀ A' n' c' e3 g' h',Ext g eT A n c l (pad W (nv ns)) A' n' c' e3 g' h'->K (.slice A' n' c') h'):Bk prog tA tn tc (W:Int) K CA cn p hp8:=by
 subst hcn
 have i:J9 (some p) 20 0 1=some p:=by rw [hp];rfl
 unfold Bk
 refine ⟨fun s hp=>∃ (k:Nat) (tA:Option aN) (tn tc:Nat) (O:List UInt8),s=[.slice tA tn tc,.bool (decide (k=ns.length)),I ((k:Int)-1)]/\k<=ns.length/\Bx g eT A n c l p CA ns O (B1o W ns k) tA tn tc hp,fun s _=>(iAt s 2+1).toNat,⟨ns.length,tA,tn,tc,[],by rw [B7 (by omega) (by omega)];simp,bB _,by unfold B1o;rw [iN (by omega)];exact x⟩,?_⟩
 rintro B E r first i1 ac ⟨k,V,S,ad,O,H,hk,M,gA,gB,ex,w,D,G⟩
 simp only [aD,aO,aK,Value.bool.injEq,and_true,true_and] at H
 obtain ⟨⟨rfl,rfl,rfl⟩,rfl,rfl⟩:=H
 have Q:=ex.len
 have aa:=B73 (W:=W) hb k
 refine B6 (fun h1=>?_) (fun h1=>?_)
 ·obtain ⟨j,rfl⟩:∃ j,k=j+1:=⟨k-1,by omega⟩
  have e:((j+1:Nat):Int)-1=(j:Int):=by omega
  rw [e]
  have o:j<ns.length:=by omega
  refine ⟨⟨by omega,by omega⟩,?_⟩
  refine (G.mono (B0 w.le ex.priv.le)).load (by simp [nz]) (by omega) (by simp;omega) ?_
  have hz:(nz ns).getD (j:Int).toNat 0=((ns[j]:Nat):Int):=by
   rw [aG];simp [nz,List.getD,o]
  rw [hz,i,show ((0:Int)).toNat-0=0 from rfl,show 20-0=20 from rfl]
  have a:=hb ns[j] (cV o)
  have T:(O1 ns[j]).length<=20:=(Pc (by decide)).2 (aU a (by decide))
  refine ex.priv.call ?_
  refine Hk (l:=[]) (gp.mono (B0 D w.le)) w.clear (aU a (by decide)) (by omega) ?_
  intro A' n' c' e3 g' Z y h' pt
  obtain ⟨rfl,rfl,rfl⟩:=y.fit (by omega)
  have R:=y.len
  rw [dM] at R
  subst R
  refine ⟨_,_,_,rfl,?_⟩
  have x2:Bx g eT A n c l p CA ns (O1 ns[j]) (B1o W ns (j+1)) B E r h':=
   ⟨M,Z,g',⟨B0 D (B0 y.le y.priv.le),pt,ex.len,ex.fit,ex.tag⟩,by simpa using y.priv,B0 D y.le,G.mono y.le⟩
  refine ⟨fun s hp=>s=[I (((if j+1=ns.length then max (O1 ns[j]).length (W-19*j) else 19):Nat):Int)]/\hp=h',B6 (fun d=>⟨?_,rfl⟩) (fun d=>⟨by rw [iN d];rfl,rfl⟩),?_⟩
  ·rw [iP d,B7 (n:=19*(j:Int)) (by omega) (by omega),B7 (by omega) (by omega)]
   simp only [aD,aK,and_true,true_and]
   by_cases L:(W:Int)-19*(j:Int)>(((O1 ns[j]).length:Nat):Int)
   ·rw [iP L];omega
   ·rw [iN L];omega
  ·rintro f F ⟨C,rfl⟩
   obtain rfl:f=(((if j+1=ns.length then max (O1 ns[j]).length (W-19*j) else 19):Nat):Int):=by simpa using C
   have N:(O1 ns[j]).length<=19:=(Pc (by decide)).2 a
   generalize hsz:(if j+1=ns.length then max (O1 ns[j]).length (W-19*j) else 19)=sz at *
   have J:(O1 ns[j]).length<=sz/\sz<=W+20:=by
    rw [<- hsz];split<;>omega
   refine B8k (q:=sz-(O1 ns[j]).length) x2 (by rw [B7 (by omega) (by omega)];omega) (by have:=ex.len;omega) ?_
   intro t m z X x3
   rw [B7 (by omega) (by omega)]
   refine ⟨⟨j,t,m,z,O1 ns[j],?_,by omega,?_⟩,by simp only [iAt,aI,aT];omega⟩
   ·rw [show decide (j=ns.length)=false by simp;omega]
   ·rw [B27 hb ht o,hsz];exact x3
 ·obtain rfl:k=0:=by omega
  refine B6 (fun d=>?_) (fun d=>?_)
  ·have u:ns=[]:=bG d.symm
   subst u
   refine B8i ex (by omega) (by omega) ?_
   intro A' n' c' e3 g' h' y
   refine hK _ _ _ e3 g' _ ?_
   have:B1o W [] 0++aE W 48=pad W (nv []):=by simp [B1o,nv,pad,I6]
   rwa [this] at y
  ·refine hK _ _ _ M gA _ ?_
   ·have:B1o W ns 0=pad W (nv ns):=by unfold B1o;rw [iP (by omega)];simp
    rw [<- this];exact ex
end
def B8o:(prog.info? B22).map (fun i=>i.zero)=some (some (.agg (cI 20 (.int .u8 0)))):=by kernel_rfl
def C1s(ns:List Nat)(c:Nat):nz (ns++[c])=nz ns++[(c:Int)]:=by simp [nz]
section
variable {h g:aV} {K:VP} {A XA:Option aN} {n c:Nat} {eT:bO} {l:List UInt8}
def Fk{xn xc v W:Nat}(gp:Gp g)(p:cT h g eT 1 A n c (yv l))(M:Mw g XA xn (v:Int))(hx:xn<=10000000)(hW:W<=1000000000)(hn:n<=1000000000)
 (hK:∀ A' n' c' e3 g' h',Ext g eT A n c l (pad W v) A' n' c' e3 g' h'->K (.slice A' n' c') h'):aF prog V7 #[.slice A n c,.slice XA xn xc,I (W:Int)] h K:=by
 obtain ⟨xs,G,sx,dx,nx,Q⟩:=M
 refine Su _ _ _ _ _ _ _ ?_
 unfold Pq
 refine p.call ?_
 refine Fh sx G (by omega) ?_
 intro WA V h0 g0 l0 pw h1 T
 obtain ⟨C,af,an⟩:=T.swap pw
 refine ⟨_,_,_,rfl,?_⟩
 unfold Jp
 have aq:(v:Int)<2^(64*xn):=by
  have:=L6 (B:=b64) (by decide) dx
  rw [Q,<- G,Lo] at this;exact this
 refine ⟨fun s hp=>∃ (a:List Int) (ns:List Nat) (WA CA:Option aN) (wn V cn cc:Nat) (C g2 g3:aV),s=[.slice WA wn V,.slice CA cn cc]/\Pw hp C WA wn V a/\Pw C g2 CA cn cc (nz ns)/\cT g2 g3 eT 1 A n c (yv l)/\g.le g3/\wn=a.length/\cn=ns.length/\wn<=xn/\Dig b64 a/\Norm a/\(∀ c∈ns,c<10^19)/\(v:Int)=val b64 a*cB^ns.length+(nv ns:Int)/\(a=[]->ns.getLast? ≠ some 0),fun s hp=>match s with|[.slice A n _,_]=>B3r b64 hp A n|_=>0,⟨xs,[],WA,none,xs.length,V,0,0,C,C,g0,rfl,af,Priv.nil _ _ _ _,an,l0,rfl,rfl,by omega,dx,nx,by simp,by simp [nv,Q],by simp⟩,?_⟩
 rintro WA1 E X CA1 ao au L ⟨a,ns,WA2,CA2,a0,aw,az,ar,C,g2,g3,hs,pw,pc,T,lg,y,ah,ax,du,nu,hb,hv,u⟩
 simp only [aD,aO,and_true] at hs
 obtain ⟨⟨rfl,rfl,rfl⟩,rfl,rfl,rfl⟩:=hs
 have a1:=C7 (B:=b64) (by decide) du
 have Mu:Mw L WA1 E (val b64 a):=⟨a,y,pw.slV,du,nu,rfl⟩
 refine B6 (fun h2=>?_) (fun h2=>?_)
 ·have am:a≠[]:=by rintro rfl;simp at y;omega
  have D:0<val b64 a:=by
   have:=Mu.len_zero (by decide)
   omega
  have t:ns.length<=64*xn:=by
   by_cases S:ns.length<=64*xn
   ·exact S
   ·exfalso
    have h3:(2:Int)^(64*xn)<=2^ns.length:=D0 (by decide) (by omega)
    have h4:(2:Int)^ns.length<=cB^ns.length:=by
     have:∀ k:Nat,(2:Int)^k<=cB^k:=by
      intro k
      induction k with
      | zero=>simp
      | succ k ih=>
       rw [bK,bK]
       exact Int.mul_le_mul ih (by decide) (by decide) (bZ (cZ (by decide)))
     exact this _
    have h5:1*cB^ns.length<=val b64 a*cB^ns.length:=cX D (bZ (cZ (by decide)))
    omega
  refine C4v pw am y du (by omega) ?_
  intro z m r ay ap hm av nw dw d hr
  obtain ⟨q,ac,ad⟩:=ap.swap pc
  refine Ea Q4 ac rfl rfl (by omega) (by omega) ?_
  intro CA' aa h' g' ae j
  obtain ⟨x,l2,i⟩:=ad.after ae
  obtain ⟨g4,N,ak⟩:=j.swap i
  obtain ⟨g5,l5,al⟩:=T.after l2
  obtain ⟨c0,e⟩:∃ c0:Nat,r=(c0:Int):=⟨r.toNat,by omega⟩
  have F:c0<10^19:=by
   have R:r<10000000000000000000:=hr.2
   show c0<10000000000000000000
   omega
  have aj:=C7 (B:=b64) (by decide) dw
  refine ⟨⟨z.take m,ns++[c0],WA1,CA',m,X,ao+1,aa,g4,x,g5,rfl,N,?_,al,B0 lg l5,hm,by simp;omega,by omega,dw,nw,?_,?_,?_⟩,?_⟩
  ·have h9:=ak
   rw [<- List.map_singleton (f:=bW .u64),<- dB,e,<- C1s] at h9
   exact h9
  ·intro c S
   rcases List.mem_append.1 S with R|R
   ·exact hb c R
   ·rw [List.mem_singleton.1 R];exact F
  ·rw [B3k,hv,d,aL,cK,bK,e];grind
  ·intro he
   rw [List.getLast?_append]
   simp only [dI,Option.some_or,ne_eq,aW]
   intro e0
   rw [he] at d
   simp [val] at d
   omega
  ·show B3r b64 h' WA1 m<B3r b64 L WA1 E
   have Mw2:Mw h' WA1 m (val b64 (z.take m)):=⟨z.take m,hm,N.slV,dw,nw,rfl⟩
   rw [Az Mw2,Az Mu]
   have R:1*val b64 (z.take m)<=cB*val b64 (z.take m):=cX (by decide) aj
   have Z:val b64 a=10000000000000000000*val b64 (z.take m)+r:=by rw [d,dP]
   omega
 ·have O:a=[]:=bG (by omega)
  subst O
  obtain ⟨x,ai,j⟩:=pc.swap T
  obtain ⟨q,J,i⟩:=pw.swap ai
  have ag:v=nv ns:=by
   simp [val] at hv;omega
  have t:ns.length<=1000000000:=by
   by_cases e:ns=[]
   ·subst e;simp
   ·have Z:=u rfl
    obtain ⟨ms,c0,rfl⟩:∃ ms c0,ns=ms++[c0]:=⟨ns.dropLast,ns.getLast e,(List.dropLast_concat_getLast e).symm⟩
    rw [List.getLast?_append] at Z
    simp only [dI,Option.some_or,ne_eq,aW] at Z
    have h8:=B3k ms c0
    by_cases S:ms.length<=64*xn
    ·simp;omega
    ·exfalso
     have h3:(2:Int)^(64*xn)<=2^ms.length:=D0 (by decide) (by omega)
     have h4:(2:Int)^ms.length<=cB^ms.length:=by
      have:∀ k:Nat,(2:Int)^k<=cB^k:=by
       intro k
       induction k with
       | zero=>simp
       | succ k ih=>
        rw [bK,bK]
        exact Int.mul_le_mul ih (by decide) (by decide) (bZ (cZ (by decide)))
      exact this _
     have h5:cB^ms.length*1<=cB^ms.length*(c0:Int):=bH (by omega) (bZ (cZ (by decide)))
     omega
  refine Dv B8o ?_
  intro b w
  refine ⟨_,rfl,?_⟩
  have hz:(Value.agg (cI 20 (.int .u8 0))).cells=(aE 20 (bW .u8 0)).toArray:=by rfl
  rw [hz]
  have H:q b=none:=by
   cases hx1:q b with
   | none=>rfl
   | some o=>rw [J.le b o hx1] at w;cases w
  refine B8j (ns:=ns) gp rfl ⟨eT,_,q,⟨?_,?_,by simp,fun _=>⟨rfl,rfl,rfl⟩,id⟩,⟨by simp [yv],by simp,.inr ⟨b,aE 20 (bW .u8 0),rfl,H,rfl,by simp,by simp [yv]⟩⟩,?_,?_⟩ ah hb (u rfl) hW hn t (by rw [<- ag];exact hK)
  ·exact B0 lg (B0 j.le (B0 i.le (Heap.le_put _ H)))
  ·rw [dC];exact J.put w _
  ·exact B0 lg (B0 j.le i.le)
  ·exact (show SlI .u64 x CA1 (nz ns) from j.slV).mono i.le
end
def Ie(i:Nat):Nat:=10^(19*2^i)
def B2b(i:Nat):Ie i=(10^19)^(2^i):=Nat.pow_mul _ _ _
def B76(i:Nat):0<Ie i:=Nat.pow_pos (by decide)
def B2a:Ie 0=10000000000000000000:=by decide
def A33(i:Nat):Ie (i+1)=Ie i*Ie i:=by
 unfold Ie
 rw [<- Nat.pow_add]
 congr 1
 rw [cP];omega
def C16(i:Nat):(Ie i:Int)<b64^(2^i):=by
 have h:(10^19)^(2^i)<(18446744073709551616:Nat)^(2^i):=Nat.pow_lt_pow_left (by decide) (Nat.pos_iff_ne_zero.1 (Nat.pow_pos (by decide)))
 rw [<- B2b] at h
 have a:((Ie i:Nat):Int)<((18446744073709551616^(2^i):Nat):Int):=Int.ofNat_lt.2 h
 rw [bI] at a
 exact a
def C17(i:Nat):(2:Int)^(63*2^i)<=(Ie i:Int):=by
 have h:(2^63)^(2^i)<=(10^19)^(2^i):=cN (by decide) _
 rw [<- B2b,<- Nat.pow_mul] at h
 have a:((2^(63*2^i):Nat):Int)<=((Ie i:Nat):Int):=Int.ofNat_le.2 h
 rw [bI] at a
 exact a
def C3w{k m:Nat}(h:(2:Int)^k<2^m):k<m:=by
 by_cases a:k<m
 ·exact a
 ·have:=D0 (B:=2) (by decide) (show m<=k by omega)
  omega
abbrev slT(s:Option aN × Nat × Nat):Value:=.slice s.1 s.2.1 s.2.2
def Pws(h:aV)(PA:Option aN)(k:Nat):Prop:=∃ ss:List (Option aN × Nat × Nat),ss.length=k/\SlV h PA (ss.map slT)/\∀ i s,ss[i]? = some s->s.2.1<=s.2.2/\Mw h s.1 s.2.1 (Ie i:Int)
def Pws.mono{h h':aV}(l:h.le h'){PA:Option aN}{k:Nat}(p:Pws h PA k):Pws h' PA k:=by
 obtain ⟨b,d,c,a⟩:=p
 exact ⟨b,d,c.mono l,fun i s e=>⟨(a i s e).1,(a i s e).2.mono l⟩⟩
def Pws.take{h:aV}{PA:Option aN}{k j:Nat}(p:Pws h PA k)(hj:j<=k):Pws h PA j:=by
 obtain ⟨a,f,b,d⟩:=p
 refine ⟨a.take j,by rw [bF];omega,?_,fun i s e=>?_⟩
 ·have:=SlV.cut (c:=(a.map slT).length) b (Nat.zero_le j) (by rw [cF];omega) (bB _)
  rw [H9,bM,bY,<- List.map_take] at this
  exact this
 ·rw [List.getElem?_take] at e
  split at e
  ·exact d i s e
  ·cases e
def Pws.at{h:aV}{PA:Option aN}{k i:Nat}(p:Pws h PA k)(hi:i<k):∃ (a:aN) (A:Option aN) (n c:Nat),PA=some a/\h.cell? (a.add i)=some (.slice A n c)/\n<=c/\Mw h A n (Ie i:Int):=by
 obtain ⟨e,m,f,g⟩:=p
 obtain ⟨a,l,b⟩:=f.at (i:=i) (by rw [cF];omega)
 rw [cW] at b
 obtain ⟨d,j⟩:=g i e[i] (aH (by omega))
 exact ⟨a,_,_,_,l,b,d,j⟩
def Mw.tenP_le{h:aV}{A:Option aN}{n i:Nat}(m:Mw h A n (Ie i:Int)):n<=2^i:=m.len_le (by decide) (C16 i)
def Mw.tenP_ge{h:aV}{A:Option aN}{n i:Nat}(m:Mw h A n (Ie i:Int)):2^i<2*n:=by
 have a:=m.lt (by decide)
 rw [Lo] at a
 have b:=C3w (Int.lt_of_le_of_lt (C17 i) a)
 omega
def Ext.weak{g g0 g' h':aV}{eT e2:bO}{A A':Option aN}{n c n' c':Nat}{l t:List UInt8}(l0:g0.le g)(x:Ext g eT A n c l t A' n' c' e2 g' h'):Ext g0 eT A n c l t A' n' c' e2 g' h':=⟨B0 l0 x.le,x.priv,x.len,x.fit,x.tag⟩
def B9u(w n:Nat):w<=(pad w n).length:=by simp [pad];omega
def C1h{j:Nat}(hj:j<=30):B5 (19*2^(min j 64))=((19*2^j:Nat):Int):=by
 rw [cD (by omega)]
 have b:2^j<=2^30:=aM (by decide) hj
 have a:(19*2^j:Int)=((19*2^j:Nat):Int):=by rw [aP,bI];rfl
 rw [a,B7 (by omega) (by have:(2:Nat)^30=1073741824:=by decide
                         omega)]
def A1t{l:List UInt8}(hd:∀ c∈l,G9 c):(J4 l:Int)<b64^l.length:=by
 have d:=Gz hd
 have b:10^l.length<=(18446744073709551616:Nat)^l.length:=cN (by decide) _
 have a:((J4 l:Nat):Int)<((18446744073709551616^l.length:Nat):Int):=Int.ofNat_lt.2 (aU d b)
 rw [bI] at a
 exact a
def Sm:∀ (k:Nat) {h g:aV} {K:VP} {A XA PA:Option aN} {n c xn xc pc v W:Nat} {eT:bO} {l:List UInt8},Gp g->cT h g eT 1 A n c (yv l)->Mw g XA xn (v:Int)->xn<=xc->xn<=10000000->Pws g PA k->k<=pc->k<=26->(W=0\/W=19*2^k)->n+(pad W v).length<=1000000000->
 (∀ A' n' c' e3 g' h',Ext g eT A n c l (pad W v) A' n' c' e3 g' h'->K (.slice A' n' c') h')->aF prog H0 #[.slice A n c,.slice XA xn xc,I (W:Int),.slice PA k pc] h K:=by
 intro k
 induction k with
 | zero=>
  intro h g K A XA PA n c xn xc pc v W eT l f p M u B m H hk hW N y
  have:=B9u W v
  refine Jn _ _ _ _ _ _ _ _ _ _ ?_
  unfold Jo
  refine B6 (fun _=>?_) (fun e=>absurd (by decide) e)
  refine Fk f p M B (by omega) (by omega) ?_
  intro A' n' c' G g' h' x
  exact ⟨_,_,_,rfl,y _ _ _ G g' _ x⟩
 | succ j ih=>
  intro h g K A XA PA n c xn xc pc v W eT l f p M u B m H hk hW N y
  have aa:=B9u W v
  have X:B5 (((j+1:Nat):Int)-1)=(j:Int):=by rw [B7 (by omega) (by omega)];omega
  refine Jn _ _ _ _ _ _ _ _ _ _ ?_
  unfold Jo
  simp only [X,aG,bY,H9,C1h (show j<=30 by omega)]
  refine B6 (fun e=>absurd e (by omega)) (fun _=>B6 (fun _=>?_) (fun _=>?_))
  ·refine Fk f p M B (by omega) (by omega) ?_
   intro A' n' c' G g' h' x
   exact ⟨_,_,_,rfl,y _ _ _ G g' _ x⟩
  ·obtain ⟨a,PA',pn,T,ha,hc,o,Mp⟩:=m.at (i:=j) (by omega)
   refine ⟨a,ha,by omega,by omega,_,_,_,by rw [bU];exact B9 p.le hc,?_⟩
   have ah:=Mp.tenP_le
   have aj:2^j<=2^26:=aM (by decide) (by omega)
   have ag:(2:Nat)^26=67108864:=by decide
   have E:=B76 j
   refine p.call ?_
   refine T3 M Mp u o (by omega) (by omega) (by omega) ?_
   intro A1 m1 c1 A2 m2 c2 g1 b k1 Q M1 M2 h1 J
   refine ⟨_,_,_,_,_,_,rfl,?_⟩
   rw [<- Int.natCast_ediv] at M1
   rw [<- Int.natCast_emod] at M2
   have hv:=Nat.div_add_mod v (Ie j)
   have s:=Nat.mod_lt v E
   have ad:=aZ v (Ie j)
   generalize v/Ie j=q at *
   generalize v%Ie j=r at *
   have hz:=M1.len_zero (by decide)
   have L:=M.lt (by decide)
   have Z:m1<=xn:=M1.len_le (by decide) (by omega)
   have ac:m2<=xn:=M2.len_le (by decide) (by
    have h0:0<=Ie j*q:=Nat.zero_le _
    generalize Ie j*q=z at *
    omega)
   have C:v=q*10^(19*2^j)+r:=by rw [<- hv,Nat.mul_comm];rfl
   have af:2^(j+1)=2*2^j:=by rw [cP];omega
   refine B6 (fun e=>absurd e (by omega)) (fun _=>?_)
   refine D9 (fun e0=>D9 (fun eW=>?_) (fun eW=>?_)) (fun e0=>?_)
   ·obtain rfl:W=0:=by omega
    obtain rfl:q=0:=by omega
    obtain rfl:v=r:=by omega
    refine ⟨⟨by omega,by omega⟩,?_⟩
    refine ih (W:=0) (f.mono b) J M2 Q (by omega) ((m.mono b).take (by omega)) (by omega) (by omega) (.inl rfl) N ?_
    intro A4 n4 c4 S O V F
    exact ⟨_,_,_,rfl,y _ _ _ _ _ _ (F.weak b)⟩
   all_goals
    have hw:q≠0\/19*2^j<=W:=by omega
    have d:=A3p (w:=W) (h:=q) (l:=r) (k:=19*2^j) s hw
    rw [<- C] at d
    have D:(pad (19*2^j) r).length=19*2^j:=Yp s
    have ai:(pad W v).length=(pad (W-19*2^j) q).length+19*2^j:=by rw [d,aL,D]
    refine ⟨⟨by omega,by omega⟩,?_⟩
    have e3:(if (0:Int)>B5 ((W:Int)-((19*2^j:Nat):Int)) then (0:Int) else B5 ((W:Int)-((19*2^j:Nat):Int)))=((W-19*2^j:Nat):Int):=by
     rw [B7 (by omega) (by omega)]
     split<;>omega
    rw [e3]
    refine ih (f.mono b) J M1 k1 (by omega) ((m.mono b).take (by omega)) (by omega) (by omega) (by omega) (by omega) ?_
    intro A3 n3 c3 e3 g3 h3 t
    have ae:=t.len
    have R:=B0 b t.le
    refine ⟨_,_,_,rfl,⟨by omega,by omega⟩,?_⟩
    refine ih (f.mono R) t.priv (M2.mono t.le) Q (by omega) ((m.mono R).take (by omega)) (by omega) (by omega) (.inr rfl) (by omega) ?_
    intro A4 n4 c4 S O V F
    refine ⟨_,_,_,rfl,y _ _ _ S O _ ?_⟩
    rw [d]
    exact (t.trans F).weak b
def Ik:∀ (k:Nat) {h:aV} {K:VP} {PA:Option aN} {pc:Nat} {l:List UInt8},(∀ c∈l,G9 c)->l.length<=100000000->Pws h PA k->k<=pc->k<=30->(∀ A n c h',h.le h'->n<=c->Mw h' A n (J4 l:Int)->K (.slice A n c) h')->aF prog L8 #[.string (bs l),.slice PA k pc] h K:=by
 intro k
 induction k using Nat.strongRecOn with
 | _ k ih=>
  intro h K PA pc l w hl y ac hk G
  refine Xo _ _ _ _ ?_
  unfold Wf
  rw [I7]
  have b:aF prog N2 #[.string (bs l)] h (fun r x=>∃ (A:Option aN) (n c:Nat),r= .slice A n c/\K (.slice A n c) x):=by
   refine Sk w hl ?_
   intro A n c h' m g M
   exact ⟨_,_,_,rfl,G _ _ _ _ m g M⟩
  refine ⟨fun s x=>x=h/\∃ j:Nat,s=[I ((j:Int)-1)]/\j<=k,fun s _=>(iAt s 0+1).toNat,⟨rfl,k,by rw [B7 (by omega) (by omega)],bB _⟩,?_⟩
  rintro last x ⟨rfl,j,S,hj⟩
  obtain rfl:last=(j:Int)-1:=by simpa using S
  refine B6 (fun Q=>?_) (fun Q=>B6 (fun _=>b) (fun e=>absurd (show (j:Int)-1<0 by omega) e))
  obtain ⟨i,rfl⟩:∃ i,j=i+1:=⟨j-1,by omega⟩
  have L:((i+1:Nat):Int)-1=(i:Int):=by omega
  have J:0<2^i:=Nat.pow_pos (by decide)
  simp only [L,aG,bY,H9,C1h (show i<=30 by omega)]
  refine B6 (fun e=>absurd e (by omega)) (fun _=>B6 (fun E=>?_) (fun E=>?_))
  ·refine ⟨⟨trivial,i,by rw [B7 (by omega) (by omega)],by omega⟩,?_⟩
   simp only [iAt,aI]
   rw [B7 (by omega) (by omega)]
   omega
  refine B6 (fun e=>absurd e (by omega)) (fun _=>B6 (fun _=>b) (fun F=>B6 (fun e=>absurd e (by omega)) (fun _=>?_)))
  have X:B5 ((l.length:Int)-((19*2^i:Nat):Int))=((l.length-19*2^i:Nat):Int):=by rw [B7 (by omega) (by omega)];omega
  simp only [X,aG,L0,bM,bY]
  obtain ⟨a,PA',pn,H,ha,g,q,Mp⟩:=y.at (i:=i) (by omega)
  refine ⟨⟨by omega,by omega⟩,⟨by omega,by omega⟩,a,ha,by omega,by omega,_,_,_,by rw [bU];exact g,?_⟩
  have aa:=Mp.tenP_le
  have T:19*2^i<l.length:=by omega
  have o:∀ c∈l.take (l.length-19*2^i),G9 c:=fun c g=>w c (cL g)
  have u:∀ c∈l.drop (l.length-19*2^i),G9 c:=fun c g=>w c (List.mem_of_mem_drop g)
  have z:(l.take (l.length-19*2^i)).length=l.length-19*2^i:=by rw [bF];omega
  have f:(l.drop (l.length-19*2^i)).length=19*2^i:=by rw [bX];omega
  have d:J4 l=J4 (l.take (l.length-19*2^i))*Ie i+J4 (l.drop (l.length-19*2^i)):=by
   have:=Ha (l.take (l.length-19*2^i)) (l.drop (l.length-19*2^i))
   rw [cJ,f] at this
   exact this
  have O:=A1t w
  have t:=A1t o
  have p:=A1t u
  rw [z] at t
  rw [f] at p
  refine ih i (by omega) o (by omega) (y.take (by omega)) (by omega) (by omega) ?_
  intro A1 n1 c1 E m k1 M1
  refine ⟨_,_,_,rfl,m,?_⟩
  have W:=M1.len_le (by decide) t
  refine H8 M1 (Mp.mono m) k1 q (by omega) (by omega) ?_
  intro A2 n2 c2 h2 C R M2
  refine ⟨_,_,_,rfl,C,⟨by omega,by omega⟩,⟨by omega,by omega⟩,?_⟩
  rw [<- aP] at M2
  have V:=M2.len_le (by decide) (Int.lt_of_le_of_lt (Int.ofNat_le.2 (by rw [d];exact Nat.le_add_right _ _)) O)
  rw [bC (by rw [f];omega)]
  refine ih i (by omega) u (by omega) ((y.mono (B0 m C)).take (by omega)) (by omega) (by omega) ?_
  intro A3 n3 c3 h3 B k3 M3
  refine ⟨_,_,_,rfl,B,?_⟩
  have Z:=M3.len_le (by decide) p
  refine S3 (M2.mono B) M3 R k3 (by omega) (by omega) ?_
  intro A4 n4 c4 h4 D N M4
  refine ⟨_,_,_,rfl,D,G _ _ _ _ (B0 m (B0 C (B0 B D))) N ?_⟩
  rw [<- Int.natCast_add,<- d] at M4
  exact M4
section
variable {h g:aV} {K:VP} {A XA:Option aN} {n c:Nat} {eT:bO} {l:List UInt8}
def A34{hs:aV}{ss:List (Option aN × Nat × Nat)}{s:Option aN × Nat × Nat}(h3:∀ i s,ss[i]? = some s->s.2.1<=s.2.2/\Mw hs s.1 s.2.1 (Ie i:Int))(h4:s.2.1<=s.2.2/\Mw hs s.1 s.2.1 (Ie ss.length:Int)):∀ i t,(ss++[s])[i]? = some t->t.2.1<=t.2.2/\Mw hs t.1 t.2.1 (Ie i:Int):=by
 intro i t e
 by_cases a:i<ss.length
 ·rw [List.getElem?_append_left a] at e;exact h3 i t e
 ·rw [List.getElem?_append_right (by omega)] at e
  by_cases b:i=ss.length
  ·subst b
   simp at e
   subst e;exact h4
  ·rw [List.getElem?_eq_none (by simp;omega)] at e;cases e
def A07{hs:aV}{b:Nat}{e:bO}: ∀ i (t:Option aN × Nat × Nat),[((some ⟨b,0,none⟩:Option aN),1,1)][i]? = some t->t.2.1<=t.2.2/\Mw (hs.put b (.cells #[U 10000000000000000000] e)) t.1 t.2.1 (Ie i:Int):=by
 intro i t a
 rcases i with _|i
 ·simp at a
  subst a
  refine ⟨bB _,[10000000000000000000],rfl,SlI.new _ _ _ _ _,?_,?_,?_⟩
  ·intro x c;simp at c;subst c;decide
  ·unfold Norm;simp
  ·rw [B2a];simp [val]
 ·simp at a
def Up(hd:∀ c∈l,G9 c)(hl:l.length<=100000000)(hK:∀ A n c h',h.le h'->n<=c->Mw h' A n (J4 l:Int)->K (.slice A n c) h'):aF prog Gk #[.string (bs l)] h K:=by
 refine Xn _ ?_
 unfold We
 rw [I7]
 refine B6 (fun h5=>?_) (fun _=>?_)
 ·refine Ba Q4 rfl ?_
  intro o u
  refine ⟨_,_,_,rfl,?_⟩
  refine Ea A88 (Priv.nil _ _ _ none) rfl rfl (by omega) (by omega) ?_
  intro A1 c1 h1 V j F
  refine ⟨fun s w=>∃ (f:List (Option aN × Nat × Nat)) (PA:Option aN) (k q:Nat) (g:aV),s=[.slice PA k q]/\cT w g Fv 1 PA k q (f.map slT)/\f.length=k/\0<k/\h.le g/\(∀ i s,f[i]? = some s->s.2.1<=s.2.2/\Mw g s.1 s.2.1 (Ie i:Int))/\2^(k-1)<=l.length,fun s _=>match s with|[.slice _ n _]=>l.length-n|_=>0,⟨[(some ⟨o,0,none⟩,1,1)],A1,1,c1,V,rfl,F,rfl,by omega,B0 (Heap.le_put _ u) j,fun i s e=>⟨(A07 (hs:=h) (b:=o) (e:=C1) i s e).1,(A07 (hs:=h) (b:=o) (e:=C1) i s e).2.mono j⟩,by simp;omega⟩,?_⟩
  rintro PA k q w ⟨f,PA',k',J,g,hs,p,z,H,D,m,T⟩
  simp only [aD,aO,and_true] at hs
  obtain ⟨rfl,rfl,rfl⟩:=hs
  have E:k-1<27:=by
   by_cases d:k-1<27
   ·exact d
   ·have:2^27<=2^(k-1):=aM (by decide) (by omega)
    have:(2:Nat)^27=134217728:=by decide
    omega
  rw [aG,C1h (show k<=30 by omega)]
  have G:B5 ((k:Int)-1)=((k-1:Nat):Int):=by rw [B7 (by omega) (by omega)];omega
  have x:Pws w PA k:=⟨f,z,p.slV,fun i s e=>⟨(m i s e).1,(m i s e).2.mono p.le⟩⟩
  refine B6 (fun e=>absurd e (by omega)) (fun _=>B6 (fun X=>?_) (fun X=>?_))
  ·obtain ⟨a,Z,d⟩:=p.slV.at (i:=k-1) (by rw [cF];omega)
   rw [cW] at d
   obtain ⟨y,M⟩:=m (k-1) (f[k-1]'(by omega)) (aH (by omega))
   generalize f[k-1]'(by omega)=s at *
   rw [G,aG,bU]
   refine ⟨a,Z,by omega,by omega,_,_,_,d,?_⟩
   have C:=M.tenP_le
   refine p.call ?_
   refine H8 M M y y (by omega) (by omega) ?_
   intro A2 L c2 g2 B N M2 h2 O
   refine ⟨_,_,_,rfl,?_⟩
   refine Ea A88 O rfl rfl (by omega) (by omega) ?_
   intro A3 R h3 W t S
   have hm:2^k=2*2^(k-1):=by
    obtain ⟨i,rfl⟩:∃ i,k=i+1:=⟨k-1,by omega⟩
    rw [cP];simp;omega
   have Q:k<2^k:=Nat.lt_two_pow_self
   refine ⟨⟨f++[(A2,L,c2)],A3,k+1,R,W,rfl,?_,by simp;omega,by omega,B0 D (B0 B t),?_,?_⟩,?_⟩
   ·rw [dB];exact S
   ·refine A34 (fun i s e=>⟨(m i s e).1,(m i s e).2.mono (B0 B t)⟩) ⟨N,?_⟩
    rw [z,show Ie k=Ie (k-1)*Ie (k-1) by rw [<- A33];congr 1;omega,aP]
    exact M2.mono t
   ·rw [cO];omega
   ·show l.length-(k+1)<l.length-k
    omega
  ·refine Ik k hd hl x p.2.1 (by omega) ?_
   intro A n c h' r d M
   exact ⟨_,_,_,rfl,hK _ _ _ _ (B0 D (B0 p.le r)) d M⟩
 ·refine Ik 0 hd hl ⟨[],rfl,SlV.nil,by simp⟩ (by omega) (by omega) ?_
  intro A n c h' r d M
  exact ⟨_,_,_,rfl,hK _ _ _ _ r d M⟩
def Kf(hd:∀ c∈l,G9 c)(hl:l.length<=100000000)(hK:∀ A n c h',h.le h'->ZI h' false A n c (J4 l:Int)->K (.agg #[.bool false,.slice A n c]) h'):aF prog Kj #[.string (bs l)] h K:=by
 refine B5j _ ?_
 unfold C0c
 refine Up hd hl ?_
 intro A n c h' b a M
 refine ⟨_,_,_,rfl,hK _ _ _ _ b ⟨a,?_,?_⟩⟩
 ·rw [aC];exact M
 ·symm;rw [decide_eq_false_iff_not];omega
end
def Priv.le_put'{h g:aV}{e:bO}{s:Nat}{A:Option aN}{n c:Nat}{xs:List Value}(p:cT h g e s A n c xs){b:Nat}(hb:h b=none)(o:Obj):g.le (g.put b o):=by
 intro k f d
 have a:k≠b:=by
  rintro rfl
  rw [p.le k f d] at hb;cases hb
 rw [B8 _ _ a];exact d
def B1u{n:Int}(h0:9223372036854775808<=n)(h1:n<18446744073709551616):B5 n=n-18446744073709551616:=by
 unfold B5 IntKind.wrap
 simp only [IntKind.signed,IntKind.bits]
 have e:n%18446744073709551616=n:=by omega
 simp only [show (2^64:Int)=18446744073709551616 from rfl,show (2^(64-1):Int)=9223372036854775808 from rfl,e]
 rw [iP (by simp;omega)]
section
variable {h g:aV} {K:VP} {A XA:Option aN} {n c:Nat} {eT:bO} {l:List UInt8}
def C4q{v xn:Nat}(hv:(v:Int)<b64^xn):(dd v).length<=20*xn:=by
 refine R5.2 ?_
 rw [Nat.pow_mul]
 have a:((v:Nat):Int)<((18446744073709551616^xn:Nat):Int):=by rw [bI];exact hv
 exact aU (Int.ofNat_lt.1 a) (cN (by decide) _)
def Hl{xn xc v:Nat}(gp:Gp g)(p:cT h g eT 1 A n c (yv l))(M:Mw g XA xn (v:Int))(hxc:xn<=xc)(hx:xn<=10000000)(hn:n<=200000000)
 (hK:∀ A' n' c' e3 g' h',Ext g eT A n c l (O1 v) A' n' c' e3 g' h'->K (.slice A' n' c') h'):aF prog Ac #[.slice A n c,.slice XA xn xc] h K:=by
 have h0:=M.len_zero (by decide)
 refine Wl _ _ _ _ _ _ ?_
 unfold Sc
 refine D9 (fun e=>?_) (fun e=>?_)
 ·obtain rfl:v=0:=by omega
  refine Gh (ch:=48) rfl p (by omega) ?_
  intro A' n' c' J g' h' x
  exact hK _ _ _ _ _ _ x
 ·have N:v≠0:=by omega
  refine D9 (fun O=>?_) (fun O=>?_)
  ·obtain ⟨xs,u,sx,dx,nx,D⟩:=M
   obtain ⟨w,rfl⟩:∃ w,xs=[w]:=by
    rcases xs with _|⟨w,_|⟨w',r⟩⟩
    ·simp at u;omega
    ·exact ⟨w,rfl⟩
    ·simp at u;omega
   rw [X4] at D
   subst D
   refine (SlI.mono p.le sx).load u (by omega) (by omega) ?_
   have o:=dx v (by simp)
   refine Hk (gp.mono p.le) p (by have:(v:Int)<18446744073709551616:=o.2;omega) (by omega) ?_
   intro A' n' c' J g' h' x
   exact ⟨_,_,_,rfl,hK _ _ _ _ _ _ x⟩
  ·have ae:=C4q (M.lt (by decide))
   have ai:(pad 0 v).length<=200000000:=by rw [A8j];omega
   refine Ba Q4 rfl ?_
   intro C F
   refine ⟨_,_,_,rfl,?_⟩
   have p1:=p.put F (.cells #[U 10000000000000000000] C1)
   have l1:=p.le_put' F (.cells #[U 10000000000000000000] C1)
   have w1:=fun i s e=>A07 (hs:=g) (b:=C) (e:=C1) i s e
   generalize h.put C (Obj.cells #[U 10000000000000000000] C1)=h1 at *
   generalize g.put C (Obj.cells #[U 10000000000000000000] C1)=g1 at *
   refine Ba A88 rfl ?_
   intro b2 S
   refine ⟨_,_,_,rfl,?_⟩
   have split:∀ {z:aV} {m:List (Option aN × Nat × Nat)} {PA:Option aN} {k t:Nat} {f d:aV},cT z f Fv 1 PA k t (m.map slT)->cT f d eT 1 A n c (yv l)->m.length=k->g.le d->(∀ i s,m[i]? = some s->s.2.1<=s.2.2/\Mw d s.1 s.2.1 (Ie i:Int))->k<=26->
    aF prog H0 #[.slice A n c,.slice XA xn xc,I (0:Int),.slice PA k t] z (fun r V=>∃ (A1:Option aN) (n1 c1:Nat),r= .slice A1 n1 c1/\K (.slice A1 n1 c1) V):=by
    intro z m PA k t f d y B G L o j
    obtain ⟨g3,Q,q⟩:=y.swap B
    have E:=B0 L q.le
    refine Sm k (W:=0) (gp.mono E) Q (M.mono E) hxc hx ⟨m,G,q.slV,fun i s e=>⟨(o i s e).1,(o i s e).2.mono q.le⟩⟩ q.2.1 j (.inl rfl) (by omega) ?_
    intro A' n' c' J g' h' x
    refine ⟨_,_,_,rfl,hK _ _ _ J g' _ ?_⟩
    rw [A8j,<- Ag N] at x
    exact x.weak E
   refine ⟨fun s z=>∃ (m:List (Option aN × Nat × Nat)) (PA:Option aN) (k t:Nat) (f d:aV),s=[.slice PA k t]/\cT z f Fv 1 PA k t (m.map slT)/\cT f d eT 1 A n c (yv l)/\m.length=k/\0<k/\g.le d/\(∀ i s,m[i]? = some s->s.2.1<=s.2.2/\Mw d s.1 s.2.1 (Ie i:Int))/\2^(k-1)<=2*xn,fun s _=>match s with|[.slice _ n _]=>xn-n|_=>0,⟨[(some ⟨C,0,none⟩,1,1)],_,1,1,h1,g1,rfl,⟨by simp,by simp,.inr ⟨b2,[.slice (some ⟨C,0,none⟩) 1 1],rfl,S,rfl,by simp,by simp⟩⟩,p1,rfl,by omega,l1,w1,by simp;omega⟩,?_⟩
   rintro PA k t z ⟨m,PA',k',af,f,d,hs,y,B,G,ad,L,o,ac⟩
   simp only [aD,aO,and_true] at hs
   obtain ⟨rfl,rfl,rfl⟩:=hs
   have j:k<=26:=by
    by_cases H:k<=26
    ·exact H
    ·have h1:2^26<=2^(k-1):=aM (by decide) (by omega)
     have h2:(2:Nat)^26=67108864:=by decide
     omega
   refine B6 (fun ak=>?_) (fun _=>split y B G L o j)
   have O:B5 ((k:Int)-1)=((k-1:Nat):Int):=by rw [B7 (by omega) (by omega)];omega
   obtain ⟨a,ha,H⟩:=y.slV.at (i:=k-1) (by rw [cF];omega)
   rw [cW] at H
   obtain ⟨h4,Mk⟩:=o (k-1) (m[k-1]'(by omega)) (aH (by omega))
   generalize m[k-1]'(by omega)=s at *
   simp only [O,aG,bU]
   refine ⟨a,ha,by omega,by omega,_,_,_,H,?_⟩
   have ag:=Mk.tenP_ge
   have al:=Mk.tenP_le
   have J:B5 (2*(s.2.1:Int))=2*(s.2.1:Int):=B7 (by omega) (by omega)
   rw [J]
   refine B6 (fun h5=>?_) (fun _=>split y B G L o j)
   refine ⟨a,ha,by omega,by omega,_,_,_,H,?_⟩
   refine y.call (B.call ?_)
   refine H8 Mk Mk h4 h4 (by omega) (by omega) ?_
   intro A2 m2 c2 g2 l2 k2 M2 aa Z ah T
   refine ⟨_,_,_,rfl,?_⟩
   refine Ea A88 T rfl rfl (by omega) (by omega) ?_
   intro A3 c3 h3 g3 E p3
   obtain ⟨g4,R,X⟩:=Z.after E
   have hm:2^k=2*2^(k-1):=by
    obtain ⟨i,rfl⟩:∃ i,k=i+1:=⟨k-1,by omega⟩
    rw [cP];simp;omega
   have aj:k<2^k:=Nat.lt_two_pow_self
   refine ⟨⟨m++[(A2,m2,c2)],A3,k+1,c3,g3,g4,rfl,?_,X,by simp;omega,by omega,B0 L (B0 l2 R),?_,?_⟩,?_⟩
   ·rw [dB];exact p3
   ·refine A34 (fun i s e=>⟨(o i s e).1,(o i s e).2.mono (B0 l2 R)⟩) ⟨k2,?_⟩
    rw [G,show Ie k=Ie (k-1)*Ie (k-1) by rw [<- A33];congr 1;omega,aP]
    exact M2.mono R
   ·rw [cO];omega
   ·show xn-(k+1)<xn-k
    omega
def B6x{z:Int}{s:Bool}{xn xc m:Nat}(i:ZI h s XA xn xc z)(hz:ZB m z)(hm:m<=100000000):xn<=10000000:=by
 obtain ⟨k,hk⟩:∃ k,k=10000000:=⟨_,rfl⟩
 rw [<- hk]
 refine i.mag.len_le (by decide) ?_
 rw [Lo]
 have b:(z.natAbs:Int)<2^m:=by
  have:((z.natAbs:Nat):Int)<((2^m:Nat):Int):=Int.ofNat_lt.2 hz
  simpa using this
 have a:=D0 (B:=2) (by decide) (show m<=64*k by omega)
 exact Int.lt_of_lt_of_le b a
def Hw{s:Bool}{xn xc:Nat}{z:Int}(gp:Gp g)(p:cT h g eT 1 A n c (yv l))(i:ZI g s XA xn xc z){m:Nat}(hz:ZB m z)(hm:m<=100000000)(hn:n<=100000000)
 (hK:∀ A' n' c' e3 g' h',Ext g eT A n c l (Hs z) A' n' c' e3 g' h'->K (.slice A' n' c') h'):aF prog Iq #[.agg #[.bool s,.slice XA xn xc],.slice A n c] h K:=by
 have j:=B6x i hz hm
 refine B14 _ _ _ _ _ _ _ ?_
 unfold B5g
 refine Br.of (fun e=>?_) (fun e=>?_)
 ·have a:z<0:=by have:=i.sgn;rw [e] at this;simpa using this.symm
  rw [Ta a] at hK
  refine Gh (ch:=45) rfl p (by omega) ?_
  intro A1 t c1 w u o b
  have:=b.len
  refine Hl (gp.mono b.le) b.priv (i.mag.mono b.le) i.cap j (by simp at this;omega) ?_
  intro A2 q c2 r k d f
  exact ⟨_,_,_,rfl,hK _ _ _ _ _ _ (b.trans f)⟩
 ·have a:¬ z<0:=by have:=i.sgn;rw [e] at this;simpa using this.symm
  rw [Ka a] at hK
  refine Hl gp p i.mag i.cap j (by omega) ?_
  intro A2 q c2 r k d f
  exact ⟨_,_,_,rfl,hK _ _ _ _ _ _ f⟩
def Hu{s:Bool}{xn xc:Nat}{z:Int}(gp:Gp h)(i:ZI h s XA xn xc z){m:Nat}(hz:ZB m z)(hm:m<=100000000)(hK:K (.string (bs (Hs z))) h):aF prog Io #[.agg #[.bool s,.slice XA xn xc]] h K:=by
 refine FCall.pure (B10 _ _ _ _ ?_)
 unfold B5a
 refine Hw (l:=[]) (eT:=F9) gp (Priv.nil _ _ _ _) i hz hm (by omega) ?_
 intro A' c b f e d x
 refine ⟨_,_,_,rfl,?_⟩
 have a:=x.len
 refine Kb Eo.und Ct T7 x.priv.slV (by simpa using a) ⟨_,rfl,?_⟩
 exact ⟨B0 x.le x.priv.le,hK⟩
def A5q{s:Bool}{xn xc:Nat}{z:Int}(i:ZI h s XA xn xc z)(hK1: -9223372036854775808<=z->z<9223372036854775808->K (.tuple #[I z,.bool true]) h)(hK0:¬ (-9223372036854775808<=z/\z<9223372036854775808)->K (.tuple #[I 0,.bool false]) h):aF prog A16 #[.agg #[.bool s,.slice XA xn xc]] h K:=by
 have x:=i.zeroIff
 have p:=Aj i.sgn
 refine B5e _ _ _ _ ?_
 unfold C0a
 refine D9 (fun e=>?_) (fun e=>?_)
 ·obtain rfl:z=0:=by omega
  exact hK1 (by omega) (by omega)
 ·obtain ⟨g,a,n,k,t,c⟩:=i.mag
  have q:=O2 k 0
  refine n.load a (by omega) (by omega) ?_
  rw [show ((0:Int)).toNat=0 from rfl]
  refine B6 (fun l=>?_) (fun l=>?_)
  ·refine hK0 ?_
   have o:=i.mag.ge (by decide) (by omega)
   have y:b64^1<=b64^(xn-1):=D0 (by decide) (by omega)
   have u:b64^1=18446744073709551616:=by decide
   omega
  ·obtain ⟨w,rfl⟩:∃ w,g=[w]:=by
    rcases g with _|⟨w,_|⟨A,r⟩⟩
    ·simp at a;omega
    ·exact ⟨w,rfl⟩
    ·simp at a;omega
   rw [X4] at c
   have m:[w].getD 0 0=w:=rfl
   rw [m] at q ⊢
   rcases p with ⟨rfl,j⟩|⟨rfl,j⟩
   ·refine Br.of (fun _=>?_) (fun f=>by cases f)
    refine B6 (fun b=>?_) (fun b=>?_)
    ·have:B5 (C0 (0-w))=z:=by rw [E6,B1u (by omega) (by omega)];omega
     rw [this];exact hK1 (by omega) (by omega)
    ·refine Br.of (fun d=>by cases d) (fun _=>?_)
     exact hK0 (by omega)
   ·refine Br.of (fun f=>by cases f) (fun _=>?_)
    refine Br.of (fun _=>?_) (fun d=>by cases d)
    refine B6 (fun b=>?_) (fun b=>?_)
    ·have:B5 w=z:=by rw [B7 (by omega) (by omega)];omega
     rw [this];exact hK1 (by omega) (by omega)
    ·exact hK0 (by omega)
end
def A0b(q:Rat)(f:Int):(q-f).num=q.num-f*q.den/\(q-f).den=q.den:=by
 have b:aQ (q.num-f*q.den).natAbs q.den=1:=by
  have a:aS (q.num-f*q.den) q.den=aS q.num q.den:=Int.gcd_sub_mul_right_left _ _ _
  have c:aS q.num q.den=1:=by
   have:=q.reduced
   unfold Nat.Coprime at this
   unfold aS
   simpa using this
  rw [c] at a
  unfold aS at a
  simpa using a
 have e:q-f=⟨q.num-f*q.den,q.den,q.den_nz,b⟩:=by
  rw [Rat.sub_def',Rat.mk_eq_mkRat];simp
 rw [e];exact ⟨rfl,rfl⟩
def Of{r:Rat}(h:0<r):r⁻¹.num=r.den/\(r⁻¹.den:Int)=r.num/\0<r⁻¹:=by
 have a:0<r.num:=by
  have:=aX 0 r
  simp at this;exact this.1 h
 refine ⟨?_,?_,Rat.inv_pos.2 h⟩
 ·rw [Rat.num_inv,aJ a,Int.one_mul]
 ·rw [Rat.den_inv,iN (by omega)];omega
def A8n{r:Rat}(h:0<r):0<r.num:=by
 have:=aX 0 r
 simp at this;exact this.1 h
def Jb{q:Rat}{f:Int}(h1:(f:Rat)<q)(h2:q<f+1):(q-f)⁻¹.num=q.den/\((q-f)⁻¹.den:Int)=q.num-f*q.den/\(q-f)⁻¹.den<q.den/\1<(q-f)⁻¹:=by
 have j:0<q-f:=by grind
 have i:q-f<1:=by grind
 obtain ⟨a,b,c⟩:=Of j
 obtain ⟨d,e⟩:=A0b q f
 have g:=(aX (q-f) 1).1 i
 simp only [Rat.one_num,Rat.one_den] at g
 rw [e] at a g
 rw [d] at b g
 refine ⟨a,b,by omega,?_⟩
 rw [aX]
 simp only [Rat.one_num,Rat.one_den]
 rw [a,b];omega
def Za(q:Rat):(q<=q.ceil)/\((q.ceil:Rat)<q+1)/\((q.floor:Rat)<=q)/\(q<q.floor+1):=by
 refine ⟨Rat.le_ceil,Rat.ceil_lt,Rat.floor_le q,?_⟩
 have:=Rat.lt_floor_add_one q
 simpa using this
def A4l{q:Rat}(h:(q.floor:Rat)<q):q.ceil=q.floor+1:=by
 obtain ⟨f,g,i,d⟩:=Za q
 have a:(q.floor:Rat)<(q.ceil:Rat):=by grind
 have b:(q.ceil:Rat)<((q.floor+2:Int):Rat):=by
  rw [dA];simp;grind
 have e:=Rat.intCast_lt_intCast.1 a
 have c:=Rat.intCast_lt_intCast.1 b
 omega
def A77{q:Rat}(h:¬ (q.floor:Rat)<q):(q.ceil:Rat)=q/\(q.floor:Rat)=q:=by
 have a:=Rat.floor_le q
 have e:(q.floor:Rat)=q:=Rat.le_antisymm a (Rat.not_lt.1 h)
 refine ⟨?_,e⟩
 have:q.ceil=q.floor:=by
  conv=>lhs;rw [<- e]
  exact Rat.ceil_intCast _
 rw [this,e]
def B3n{lo hi:Rat}(h:¬ ((lo.ceil:Rat)<=hi\/¬ lo<=hi)):(lo.floor:Rat)<lo/\lo<=hi/\hi<lo.floor+1:=by
 have a:¬ (lo.ceil:Rat)<=hi:=fun e=>h (.inl e)
 have c:lo<=hi:=by
  by_cases e:lo<=hi
  ·exact e
  ·exact absurd (.inr e) h
 by_cases b:(lo.floor:Rat)<lo
 ·refine ⟨b,c,?_⟩
  have:=A4l b
  rw [this,dA,Rat.not_le] at a
  simpa using a
 ·exfalso
  rw [(A77 b).1] at a
  exact a c
def Hr(lo hi:Rat):Rat:=
 if _h:(lo.ceil:Rat)<=hi\/¬ lo<=hi then lo.ceil else lo.floor+(Hr (hi-lo.floor)⁻¹ (lo-lo.floor)⁻¹)⁻¹
termination_by lo.den+hi.den
decreasing_by
 obtain ⟨a,b,c⟩:=B3n _h
 have e:=(Jb a (Std.lt_of_le_of_lt b c)).2.2.1
 have d:=(Jb (Std.lt_of_lt_of_le a b) c).2.2.1
 omega
def Ug{lo hi:Rat}(h:(lo.ceil:Rat)<=hi):Hr lo hi=lo.ceil:=by
 rw [Hr,dif_pos (.inl h)]
def Qd{lo hi:Rat}(h:¬ (lo.ceil:Rat)<=hi)(h2:lo<=hi):Hr lo hi=lo.floor+(Hr (hi-lo.floor)⁻¹ (lo-lo.floor)⁻¹)⁻¹:=by
 rw [Hr,dif_neg (fun e=>e.elim h (fun e=>e h2))]
def Cm{a b:Rat}(ha:0<a)(h:a<=b):b⁻¹<=a⁻¹:=by
 have f:0<b:=Std.lt_of_lt_of_le ha h
 obtain ⟨d,c,_⟩:=Of ha
 obtain ⟨e,g,_⟩:=Of f
 have:=(Rat.le_iff a b).1 h
 rw [Rat.le_iff,d,c,e,g]
 rw [dP (b.den:Int),dP (a.den:Int)]
 exact this
def A3b:∀ n (lo hi:Rat),lo.den+hi.den<=n->0<lo->lo<=hi->(lo<=Hr lo hi/\Hr lo hi<=hi)/\∀ y,lo<=y->y<=hi->(Hr lo hi).den<=y.den/\(Hr lo hi).num<=y.num:=by
 intro n
 induction n with
 | zero=>intro lo hi h;have:=lo.den_nz;omega
 | succ n ih=>
  intro lo hi D o i
  by_cases h:(lo.ceil:Rat)<=hi
  ·rw [Ug h]
   refine ⟨⟨(Za lo).1,h⟩,?_⟩
   intro y k p
   have q:0<y:=Std.lt_of_lt_of_le o k
   refine ⟨by rw [Rat.den_intCast];have:=y.den_nz;omega,?_⟩
   rw [Rat.num_intCast,Rat.ceil_le_iff]
   refine Rat.le_trans k ?_
   rw [Rat.le_iff,Rat.num_intCast,Rat.den_intCast]
   have B:=A8n q
   have A:1<=(y.den:Int):=by have:=y.den_nz;omega
   have:=bH A (bZ B)
   simpa using this
  ·obtain ⟨a,b,c⟩:=B3n (fun e=>e.elim h (fun e=>e i))
   rw [Qd h i]
   generalize hf:lo.floor=f at *
   have l:0<=f:=by
    have:(-1:Int)<lo.floor:=by
     have J:(0:Int)<=lo.floor:=Rat.le_floor_iff.2 (by simpa using Rat.le_of_lt o)
     omega
    omega
   obtain ⟨H,Q,M,G⟩:=Jb a (Std.lt_of_le_of_lt b c)
   obtain ⟨R,L,W,u⟩:=Jb (Std.lt_of_lt_of_le a b) c
   have d:(hi-f)⁻¹<=(lo-f)⁻¹:=Cm (by grind) (by grind)
   obtain ⟨⟨m,z⟩,r⟩:=ih (hi-f)⁻¹ (lo-f)⁻¹ (by omega) (by grind) d
   generalize hx:Hr (hi-f)⁻¹ (lo-f)⁻¹=x at *
   have C:1<x:=Std.lt_of_lt_of_le u m
   have j:0<x:=by grind
   obtain ⟨X,Z,O⟩:=Of j
   have s:=Cm (show 0<(hi-f)⁻¹ by grind) m
   have w:=Cm j z
   rw [Rat.inv_inv] at s w
   refine ⟨⟨by grind,by grind⟩,?_⟩
   have g:((f:Rat)+x⁻¹).den=x⁻¹.den/\((f:Rat)+x⁻¹).num=x⁻¹.num+f*x⁻¹.den:=by
    have:=A0b (x⁻¹) (-f)
    rw [Rat.intCast_neg] at this
    have e:x⁻¹ - -(f:Rat)=f+x⁻¹:=by grind
    rw [e] at this
    refine ⟨this.2,?_⟩
    rw [this.1];grind
   intro y k p
   obtain ⟨F,N,S,E⟩:=Jb (Std.lt_of_lt_of_le a k) (Std.lt_of_le_of_lt p c)
   obtain ⟨V,T⟩:=r (y-f)⁻¹ (Cm (by grind) (by grind)) (Cm (by grind) (by grind))
   have t:x⁻¹.den<=y.den:=by omega
   refine ⟨by rw [g.1];exact t,?_⟩
   rw [g.2]
   have:=bH (show (x⁻¹.den:Int)<=y.den by omega) l
   omega
def B7i{lo hi:Rat}(h0:0<lo)(h:lo<=hi):lo<=Hr lo hi/\Hr lo hi<=hi:=(A3b _ lo hi (bB _) h0 h).1
def A8c{m:Nat}{lo hi:Rat}(h0:0<lo)(h:lo<=hi)(hs:Sz m lo):Sz m (Hr lo hi):=by
 obtain ⟨⟨b,_⟩,a⟩:=A3b _ lo hi (bB _) h0 h
 obtain ⟨c,d⟩:=a lo Rat.le_refl h
 have:=A8n (Std.lt_of_lt_of_le h0 b)
 exact ⟨hs.num.le (by omega),hs.den.le (by simpa using c)⟩
def B2q(lo hi:Rat):Rat:=if hi<0 then -Hr (-hi) (-lo) else if lo<=0 then 0 else Hr lo hi
def B3s(a b:Rat):(a*b).num=a.num.tdiv (aQ a.num.natAbs b.den:Nat)*b.num.tdiv (aQ b.num.natAbs a.den:Nat)/\(a*b).den=a.den/(aQ b.num.natAbs a.den)*(b.den/(aQ a.num.natAbs b.den)):=by
 show (Rat.mul a b).num=_/\(Rat.mul a b).den=_
 delta Rat.mul
 simp only [Int.divExact_eq_tdiv,Nat.divExact_eq_div,and_self]
def Zf(a b:Rat)(h:a.den.gcd b.den=1):(a+b).num=a.num*b.den+b.num*a.den/\(a+b).den=a.den*b.den:=by
 show (dD a b).num=_/\(dD a b).den=_
 delta dD
 simp only [h,dif_pos,and_self]
def Ze(a b:Rat)(h:a.den.gcd b.den≠1){g r:Nat}{z:Int}(hg:g=a.den.gcd b.den)(hz:z=a.num*(b.den/g:Nat)+b.num*(a.den/g:Nat))(hr:r=z.natAbs.gcd g):(a+b).num=z.tdiv r/\(a+b).den=a.den/g*(b.den/r):=by
 subst hg hz
 have c:r∣b.den:=by rw [hr];exact Nat.dvd_trans (bV ..) (bV ..)
 show (dD a b).num=_/\(dD a b).den=_
 delta dD
 simp only [h,dif_neg,not_false_eq_true]
 rw [Rat.maybeNormalize_eq]
 subst hr
 refine ⟨?_,Nat.mul_div_assoc _ c⟩
 simp only [Int.divExact_eq_tdiv]
def Pg(a:Rat)(z:Int):(a+z).num=z*a.den+a.num/\(a+z).den=a.den:=by
 have:=A0b a (-z)
 rw [Rat.intCast_neg] at this
 have e:a - -(z:Rat)=a+z:=by grind
 rw [e] at this
 refine ⟨by rw [this.1,Int.neg_mul];omega,this.2⟩
def Yv{q:Rat}(h:q.den=1):q=(q.num:Rat):=by
 apply Rat.ext
 ·simp
 ·simpa using h
abbrev dgt(c:UInt8):Bool:=decide (G9 c)
def No(l:List UInt8):∀ c∈l.takeWhile dgt,G9 c:=by
 induction l with
 | nil=>simp
 | cons d r ih=>
  intro c a
  by_cases b:G9 d
  ·simp [b] at a
   rcases a with rfl|a
   ·exact b
   ·exact ih c a
  ·simp [b] at a
def B7t(l:List UInt8):Bool:=decide ([45] <+: l)
def Et(l:List UInt8):List UInt8:=if [45] <+: l then l.drop 1 else l
def A8h(l:List UInt8):l=(if B7t l then [45] else [])++Et l:=by
 unfold B7t Et
 by_cases h:[45] <+: l
 ·obtain ⟨t,rfl⟩:=h;simp
 ·simp [h]
def B3c(l:List UInt8):B7t l=(l.head? == some 45):=by
 unfold B7t
 cases l with
 | nil=>simp
 | cons c r=>
  rw [cG,bJ,decide_eq_true_iff,beq_iff_eq,aW]
  constructor
  ·rintro ⟨t,e⟩;simp at e;exact e.1.symm
  ·rintro rfl;exact ⟨r,rfl⟩
def Form.parts{l:List UInt8}{neg:Bool}{a b:List UInt8}(f:Form l neg a b):neg=B7t l/\a=(Et l).takeWhile dgt/\(if b=[] then [] else 47::b)=(Et l).dropWhile dgt:=by
 have g:neg=B7t l:=by rw [B3c];exact f.head
 have e:=A8h l
 rw [<- g] at e
 have i:=e.symm.trans f.eq
 rw [aR] at i
 have j:=dJ i
 have k:∀ c,(if b=[] then [] else 47::b:List UInt8).head? = some c->¬ G9 c:=by
  intro c d
  split at d
  ·simp at d
  ·simp at d;subst d;decide
 have:=Gc f.da k
 rw [<- j] at this
 exact ⟨g,this.1.symm,this.2.symm⟩
section
variable {h g:aV} {K:VP} {l:List UInt8}
def Ld(hl:l.length<=1000000000)(hK:K (.tuple #[.string (bs (l.takeWhile dgt)),.string (bs (l.dropWhile dgt))]) h):aF prog An #[.string (bs l)] h K:=by
 refine A25 _ ?_
 unfold Zj
 simp only [I7]
 refine ⟨fun L e=>L=[I (((l.takeWhile dgt).length:Nat):Int)]/\e=h,?_,?_⟩
 ·refine ⟨fun L e=>∃ k:Nat,L=[I k]/\e=h/\k<=l.length/\(∀ c∈l.take k,G9 c),fun L _=>l.length-(iAt L 0).toNat,⟨0,rfl,rfl,by omega,by simp⟩,?_⟩
  rintro n e ⟨k,m,rfl,w,g⟩
  obtain rfl:=sI1 m
  have a:(∀ c,(l.drop k).head? = some c->¬ G9 c)->[I (k:Int)]=[I (((l.takeWhile dgt).length:Nat):Int)]/\e=e:=by
   intro u
   have:=Gc g u
   rw [cJ] at this
   refine ⟨?_,rfl⟩
   rw [this.1,bF,cD w]
  refine B6 (fun x=>?_) (fun x=>?_)
  ·have f:k<l.length:=by omega
   have d:(bs l)[(k:Int).toNat]? = some l[k]:=by rw [aG,Jc,aH f]
   have r:(l.drop k).head? = some l[k]:=by rw [List.head?_drop,aH f]
   refine ⟨l[k],⟨by omega,d⟩,B6 (fun s=>?_) (fun s=>?_)⟩
   ·refine ⟨l[k],⟨by omega,d⟩,B6 (fun t=>?_) (fun t=>?_)⟩
    ·rw [B7 (by omega) (by omega)]
     refine ⟨⟨k+1,rfl,rfl,by omega,?_⟩,by simp only [iAt,aI];omega⟩
     rw [cR f]
     intro c b
     rcases List.mem_append.1 b with j|j
     ·exact g c j
     ·rw [List.mem_singleton.1 j];exact ⟨by omega,by omega⟩
    ·exact a (fun c b=>by rw [r] at b;cases b;intro g;exact t (by have:=g.2;omega))
   ·exact a (fun c b=>by rw [r] at b;cases b;intro g;exact s (by have:=g.1;omega))
  ·exact a (fun c b=>by rw [dO (by omega)] at b;cases b)
 ·rintro n e ⟨m,rfl⟩
  obtain rfl:n=(((l.takeWhile dgt).length:Nat):Int):=by simpa using m
  have i:(l.takeWhile dgt).length<=l.length:=(dN _).length_le
  have q:l.take (l.takeWhile dgt).length=l.takeWhile dgt:=by
   conv=>lhs;rw [<- bD (p:=dgt) (l:=l)]
   rw [bD,List.prefix_iff_eq_take.1 (List.takeWhile_prefix _)]
   rw [bF,cD i]
  have o:l.drop (l.takeWhile dgt).length=l.dropWhile dgt:=by
   have y:l.takeWhile dgt++l.drop (l.takeWhile dgt).length=l.takeWhile dgt++l.dropWhile dgt:=by
    rw [bD]
    conv=>lhs;lhs;rw [<- q]
    exact cJ _ _
   exact dJ y
  refine ⟨⟨by omega,by omega⟩,⟨by omega,by omega⟩,?_⟩
  rw [aG,L0,L0,bM,bY,q,o,bC (by rw [<- o,bX];omega)]
  exact hK
def Y9(a:List UInt8):((bs a).toList==({ data:=#[] }:ByteArray).toList)=decide (a=[]):=Lf a []
def Qc(hl:l.length<=1000000000)(hK1:∀ neg a b,Form l neg a b->K (.tuple #[.agg #[.bool neg,.string (bs a),.string (bs b)],.bool true]) h)(hK0:(∀ neg a b,¬ Form l neg a b)->∀ neg a b,K (.tuple #[.agg #[.bool neg,.string (bs a),.string (bs b)],.bool false]) h):aF prog Ok #[.string (bs l)] h K:=by
 refine B5o _ ?_
 unfold C0h
 refine Xl (q:=[45]) ⟨_,_,rfl,?_⟩
 have C:(Et l).length<=l.length:=by unfold Et;split<;>simp
 show aF prog An #[.string (bs (Et l))] h _
 refine Ld (by omega) ⟨_,_,rfl,?_⟩
 show Br _ _ _
 have B:Et l=(Et l).takeWhile dgt++(Et l).dropWhile dgt:=List.takeWhile_append_dropWhile.symm
 have w:∀ c∈(Et l).takeWhile dgt,G9 c:=No _
 have j:∀ neg a b,Form l neg a b->neg=B7t l/\a=(Et l).takeWhile dgt/\(if b=[] then [] else 47::b)=(Et l).dropWhile dgt:=fun neg a b f=>f.parts
 have g:=A8h l
 have aa:((Et l).takeWhile dgt).length<=l.length:=cQ (dN _).length_le C
 have M:((Et l).dropWhile dgt).length<=l.length:=cQ (List.dropWhile_sublist _).length_le C
 have ac:∀ c,((Et l).dropWhile dgt).head? = some c->¬ G9 c:=fun c V=>by
  have:=List.head?_dropWhile_not dgt (Et l)
  rw [V] at this
  simpa using this
 show Br _ _ _
 have z:decide ([45] <+: l)=B7t l:=rfl
 rw [z]
 generalize B7t l=neg at *
 generalize (Et l).takeWhile dgt=a at *
 generalize (Et l).dropWhile dgt=r at *
 generalize Et l=t at *
 subst B
 have S:((bs a).toList==({ data:=#[48] }:ByteArray).toList)=decide (a=[48]):=Lf a [48]
 rw [S,Y9,Y9]
 refine B6 (fun O=>?_) (fun O=>?_)
 ·subst O
  refine P6 (Br.of (fun J=>?_) (fun J=>?_))
  ·subst J
   refine hK0 ?_ _ _ []
   intro G x i f
   obtain ⟨rfl,rfl,_⟩:=j _ _ _ f
   rcases f.ha with d|d
   ·exact d rfl
   ·cases d.2.1
  ·subst J
   by_cases F:r=[]
   ·rw [decide_eq_true F]
    subst F
    refine hK1 false [48] [] ⟨by simpa using g,by simpa using w,by simp,by simp,.inr ⟨rfl,rfl,rfl⟩,by simp,by simp⟩
   ·rw [decide_eq_false F]
    refine hK0 ?_ _ _ []
    intro G x i f
    obtain ⟨rfl,rfl,n⟩:=j _ _ _ f
    rcases f.ha with d|d
    ·exact d rfl
    ·rw [d.2.2] at n;exact F (by simpa using n.symm)
 ·refine ⟨fun L hp=>L=[.bool (decide (a=[]\/a.head? = some 48))]/\hp=h,?_,?_⟩
  ·refine B6 (fun d=>⟨by simp [d],rfl⟩) (fun d=>?_)
   obtain ⟨c,k,rfl⟩:=aY d
   refine ⟨c,⟨by omega,by rw [Jc];rfl⟩,?_,rfl⟩
   congr 2
   rw [bJ,beq_iff_eq,decide_eq_true_iff]
   simp only [reduceCtorEq,false_or,cG,aW]
   constructor
   ·intro e;apply UInt8.toNat_inj.1;show c.toNat=48;omega
   ·rintro rfl;rfl
  rintro T hp ⟨hL,rfl⟩
  obtain rfl:T=decide (a=[]\/a.head? = some 48):=by simpa using hL
  refine B6 (fun d=>?_) (fun d=>?_)
  ·refine hK0 ?_ _ _ []
   intro G x i f
   obtain ⟨rfl,rfl,_⟩:=j _ _ _ f
   rcases d with d|d
   ·exact f.ne d
   ·rcases f.ha with n|n
    ·exact n d
    ·exact O n.1
  ·have u:a≠[]:=fun e=>d (.inl e)
   have A:a.head? ≠ some 48:=fun e=>d (.inr e)
   refine B6 (fun n=>?_) (fun n=>?_)
   ·subst n
    exact hK1 neg a [] ⟨by simpa using g,w,by simp,u,.inl A,by simp,by simp⟩
   ·obtain ⟨c,k,rfl⟩:=aY n
    refine ⟨c,⟨by omega,by rw [Jc];rfl⟩,I8 (fun Z=>?_) (fun Z=>?_)⟩
    ·refine hK0 ?_ _ _ []
     intro G x i f
     obtain ⟨rfl,rfl,o⟩:=j _ _ _ f
     by_cases y:i=[]
     ·simp [y] at o
     ·rw [iN y] at o
      simp at o
      exact Z (by rw [<- o.1];rfl)
    ·have V:c=47:=by apply UInt8.toNat_inj.1;show c.toNat=47;omega
     subst V
     refine ⟨⟨by omega,by rw [I7];simp;omega⟩,?_⟩
     rw [L0,show ((1:Int)).toNat=1 from rfl,I7,bC (by simp),List.drop_succ_cons,bM]
     refine Ld (by simp at M;omega) ⟨_,_,rfl,?_⟩
     have p:k=k.takeWhile dgt++k.dropWhile dgt:=List.takeWhile_append_dropWhile.symm
     have X:∀ c∈k.takeWhile dgt,G9 c:=No _
     have W:∀ i:List UInt8,(∀ c∈i,G9 c)->i=k->k.takeWhile dgt=i/\k.dropWhile dgt=[]:=by
      intro i hd e
      subst e
      have:=Gc (r:=[]) hd (by simp)
      simpa using this
     generalize k.takeWhile dgt=b at *
     generalize k.dropWhile dgt=s at *
     have E:(s≠[]\/b=[]\/b.head? = some 48\/b=[49])->∀ neg' x i,¬ Form (((if neg=true then [45] else [])++(a++47::k))) neg' x i:=by
      rintro D G x i f
      rw [<- g] at f
      obtain ⟨rfl,rfl,o⟩:=j _ _ _ f
      by_cases y:i=[]
      ·simp [y] at o
      ·rw [iN y] at o
       simp at o
       obtain ⟨e6,e7⟩:=W i f.db o
       subst e6
       rcases D with m|m|m|m
       ·exact m e7
       ·exact y m
       ·exact f.hb m
       ·exact f.b1 m
     rw [Y9,Y9]
     have R:((bs b).toList==({ data:=#[49] }:ByteArray).toList)=decide (b=[49]):=Lf b [49]
     rw [R]
     refine B6 (fun m=>?_) (fun m=>hK0 (by rw [g];exact E (.inl m)) _ _ _)
     subst m
     rw [dC] at p
     subst p
     refine P6 (B6 (fun Q=>hK0 (by rw [g];exact E (.inr (.inl Q))) _ _ _) (fun Q=>?_))
     obtain ⟨c,N,rfl⟩:=aY Q
     refine ⟨c,⟨by omega,by rw [Jc];rfl⟩,I8 (fun h8=>?_) (fun h8=>?_)⟩
     ·by_cases H:c::N=[49]
      ·rw [decide_eq_true H]
       exact hK0 (by rw [g];exact E (.inr (.inr (.inr H)))) _ _ _
      ·rw [decide_eq_false H]
       refine hK1 neg a (c::N) ⟨by simpa using g,w,X,u,.inl A,?_,H⟩
       intro e;simp at e;exact h8 (by rw [e];rfl)
     ·have hh:(c::N).head? = some 48:=by
       simp only [cG,aW]
       apply UInt8.toNat_inj.1;show c.toNat=48;omega
      exact hK0 (by rw [g];exact E (.inr (.inr (.inl hh)))) _ _ _
end
def B8n:(prog.info? B21).map (fun i=>i.zero)=some (some (.agg (cI 48 (.int .u8 0)))):=by kernel_rfl
def A4i{x y:Int}(hy:0<y):(bL x y).num=x.tdiv (aS x y)/\((bL x y).den:Int)=y.tdiv (aS x y):=by
 have b:(aS x y:Int)∣x:=Int.gcd_dvd_left ..
 have a:(aS x y:Int)∣y:=Int.gcd_dvd_right ..
 constructor
 ·rw [Rat.num_divInt,aJ hy,Int.one_mul,Int.gcd_comm,dK b]
 ·rw [Rat.den_divInt,iN (by omega),Int.gcd_comm,Int.natCast_ediv,Int.natAbs_of_nonneg (by omega),dK a]
def A04{q:Rat}(h:q.den=1):H1 q=Hs q.num:=by unfold H1;rw [iP h,dC]
def A2x{q:Rat}(h:q.den≠1):H1 q=Hs q.num++[47]++Hs (q.den:Int):=by
 unfold H1;rw [iN h,Ka (i:=(q.den:Int)) (by omega),aC];simp
section
variable {h g:aV} {K:VP} {l:List UInt8}
def C65{k:Nat}(h:k<=18):10^k<=1000000000000000000:=cQ (aM (by decide) h) (by decide)
def Hj(hd:∀ c∈l,G9 c)(hl:l.length<=18)(hK:K (I (J4 l:Int)) h):aF prog Ae #[.string (bs l)] h K:=by
 refine Wr _ ?_
 unfold Se
 simp only [I7]
 refine ⟨fun L f=>∃ k:Nat,L=[I (J4 (l.take k):Int),I k]/\f=h/\k<=l.length,fun L _=>l.length-(iAt L 1).toNat,⟨0,rfl,rfl,by omega⟩,?_⟩
 rintro n q f ⟨k,g,rfl,o⟩
 simp only [aD,aK,and_true,true_and] at g
 obtain ⟨rfl,rfl⟩:=g
 refine B6 (fun j=>?_) (fun j=>?_)
 ·have a:k<l.length:=by omega
  have d:=hd l[k] (cV a)
  have b:=Gz (l:=l.take (k+1)) (fun c i=>hd c (cL i))
  rw [bF,cD (by omega)] at b
  have p:=C65 (k:=k+1) (by omega)
  have m:J4 (l.take (k+1))=10*J4 (l.take k)+(l[k].toNat-48):=by rw [cR a,Iz]
  unfold G9 at d
  refine ⟨l[k],⟨by omega,by rw [aG,Jc,aH a]⟩,?_⟩
  have e:B5 (B5 (10*((J4 (l.take k):Nat):Int))+B5 (wu8 (((l[k].toNat:Nat):Int)-48)))=((J4 (l.take (k+1)):Nat):Int):=by
   rw [Yb (by omega) (by omega),B7 (n:=((l[k].toNat:Nat):Int)-48) (by omega) (by omega),B7 (n:=10*((J4 (l.take k):Nat):Int)) (by omega) (by omega),B7 (by omega) (by omega)]
   omega
  rw [e,B7 (n:=(k:Int)+1) (by omega) (by omega)]
  exact ⟨⟨k+1,rfl,rfl,by omega⟩,by simp only [iAt,aI,aT];omega⟩
 ·obtain rfl:k=l.length:=by omega
  rw [List.take_length];exact hK
def A31{a b:Nat}(hK:K (I (aQ a b:Int)) h):aF prog A8u #[I (a:Int),I (b:Int)] h K:=by
 refine C2y _ _ ?_
 unfold C7j
 refine ⟨fun L d=>∃ x y:Nat,L=[I x,I y]/\d=h/\aQ x y=aQ a b,fun L _=>(iAt L 1).toNat,⟨a,b,rfl,rfl,rfl⟩,?_⟩
 rintro j k d ⟨x,y,l,rfl,c⟩
 obtain ⟨rfl,rfl⟩:j=(x:Int)/\k=(y:Int):=by simpa using l
 refine I8 (fun f=>?_) (fun f=>?_)
 ·have g:y≠0:=by omega
  refine B6 (fun e=>absurd e f) (fun _=>?_)
  have e:Int.tmod (x:Int) (y:Int)=((x%y:Nat):Int):=(Int.ofNat_tmod x y).symm
  rw [e]
  have i:=Nat.mod_lt x (Nat.pos_of_ne_zero g)
  refine ⟨⟨y,x%y,rfl,rfl,?_⟩,by simp only [iAt,aI,aT];omega⟩
  rw [<- c,Nat.gcd_comm x y,Nat.gcd_rec y x,Nat.gcd_comm]
 ·obtain rfl:y=0:=by omega
  rw [Nat.gcd_zero_right] at c
  rw [c];exact hK
def Dz(hK1:∀ q,l=H1 q->q.num.natAbs<1000000000->q.den<1000000000->K (.tuple #[.agg #[I q.num,I (q.den:Int)],.bool true]) h)(hK0:K (.tuple #[.agg #[I 0,I 0],.bool false]) h):aF prog Am #[.string (bs l)] h K:=by
 refine A24 _ ?_
 unfold Zi
 rw [I7]
 refine B6 (fun _=>hK0) (fun O=>?_)
 refine Qc (by omega) ?_ ?_
 ·intro neg a b f
  refine ⟨_,_,_,_,rfl,?_⟩
  simp only [I7]
  refine ⟨fun L i=>L=[.bool (decide (a.length>9\/b.length>9))]/\i=h,Br.of (fun e=>by cases e) (fun _=>B6 (fun y=>⟨?_,rfl⟩) (fun y=>⟨?_,rfl⟩)),?_⟩
  ·rw [decide_eq_true (show a.length>9\/b.length>9 by omega)]
  ·by_cases H:b.length>9
   ·rw [decide_eq_true (show a.length>9\/b.length>9 by omega)]
    exact congrArg (fun x=>[Value.bool x]) (decide_eq_true (show ((b.length:Nat):Int)>9 by omega))
   ·rw [decide_eq_false (show ¬ (a.length>9\/b.length>9) by omega)]
    exact congrArg (fun x=>[Value.bool x]) (decide_eq_false (show ¬ ((b.length:Nat):Int)>9 by omega))
  rintro d i ⟨p,rfl⟩
  obtain rfl:d=decide (a.length>9\/b.length>9):=by simpa using p
  refine B6 (fun _=>hK0) (fun y=>?_)
  have m:(Vl neg a).natAbs=J4 a:=by unfold Vl;split<;>simp
  have A:=Gz f.da
  have G:=Gz f.db
  have w:∀ k,k<=9->10^k<=1000000000:=fun k E=>cQ (aM (by decide) E) (by decide)
  have D:=w a.length (by omega)
  have J:=w b.length (by omega)
  refine Hj f.da (by omega) ⟨_,rfl,?_⟩
  refine ⟨fun L g=>L=[I 0,I 0,I (J4 a:Int),I (Px b:Int)]/\g=i/\aQ (J4 a) (Px b)=1,?_,?_⟩
  ·rw [Y9]
   refine P6 (B6 (fun r=>?_) (fun r=>?_))
   ·subst r;exact ⟨rfl,rfl,by unfold Px;simp⟩
   ·refine Hj f.db (by omega) ⟨_,rfl,A31 ⟨_,rfl,I8 (fun _=>hK0) (fun M=>?_)⟩⟩
    have t:Px b=J4 b:=by unfold Px;rw [iN r]
    rw [t]
    exact ⟨rfl,rfl,by omega⟩
  ·rintro F z R T s ⟨o,rfl,C⟩
   simp only [aD,aK,and_true,true_and] at o
   obtain ⟨_,_,rfl,rfl⟩:=o
   obtain ⟨q,u⟩:=f.isNum.2 C
   have c:=f.of_txt u
   have n:Px b<1000000000:=by unfold Px;split<;>omega
   refine ⟨fun L g=>L=[I q.num,I (q.den:Int)]/\g=s,Br.of (fun e=>?_) (fun e=>?_),?_⟩
   ·rw [c.1,c.2,e,B7 (by omega) (by omega)]
    exact ⟨by unfold Vl;simp,rfl⟩
   ·rw [c.1,c.2,e]
    exact ⟨by unfold Vl;simp,rfl⟩
   ·rintro Q N B ⟨j,rfl⟩
    simp only [aD,aK,and_true,true_and] at j
    obtain ⟨rfl,rfl⟩:=j
    exact hK1 q u (by rw [c.1,m];omega) (by rw [c.2];exact n)
 ·intro S neg a b
  refine ⟨_,_,_,_,rfl,?_⟩
  refine ⟨fun L i=>L=[.bool true]/\i=h,P6 ⟨rfl,rfl⟩,?_⟩
  rintro d i ⟨p,rfl⟩
  obtain rfl:d=true:=by simpa using p
  exact Br.of (fun _=>hK0) (fun e=>by cases e)
def Ak{l':List UInt8}(hK1:∀ p q,l=H1 p->l'=H1 q->p.num.natAbs<1000000000->p.den<1000000000->q.num.natAbs<1000000000->q.den<1000000000->K (.tuple #[.agg #[I p.num,I (p.den:Int)],.agg #[I q.num,I (q.den:Int)],.bool true]) h)(hK0:K (.tuple #[.agg #[I 0,I 0],.agg #[I 0,I 0],.bool false]) h):aF prog Y6 #[.string (bs l),.string (bs l')] h K:=by
 refine A7m _ _ ?_
 unfold A9k
 refine Dz ?_ ⟨_,_,_,rfl,P6 hK0⟩
 intro p c d e
 refine ⟨_,_,_,rfl,P6 ?_⟩
 refine Dz ?_ ⟨_,_,_,rfl,P6 hK0⟩
 intro q a f b
 exact ⟨_,_,_,rfl,P6 (hK1 p q c a d e f b)⟩
def T1{num den:Int}(gp:Gp h)(hd:den≠0)(h1:num.natAbs<4000000000000000000)(h2:den.natAbs<4000000000000000000)(hK:K (.string (bs (H1 (bL num den)))) h):aF prog Q1 #[I num,I den] h K:=by
 refine FCall.pure (Wq _ _ ?_)
 unfold Sd
 refine ⟨fun L t=>t=h/\∃ n d:Int,L=[I n,I d]/\0<d/\bL n d=bL num den/\n.natAbs=num.natAbs/\d.natAbs=den.natAbs,B6 (fun j=>⟨rfl,-num,-den,?_,by omega,Rat.neg_divInt_neg num den,by omega,by omega⟩) (fun j=>⟨rfl,num,den,rfl,by omega,rfl,rfl,rfl⟩),?_⟩
 ·rw [B7 (by omega) (by omega),B7 (by omega) (by omega),Int.zero_sub,Int.zero_sub]
 rintro f p t ⟨rfl,n,d,B,w,R,hn,V⟩
 simp only [aD,aK,and_true,true_and] at B
 obtain ⟨rfl,rfl⟩:=B
 rw [<- R] at hK
 have g:=A4i (x:=f) w
 have X:=Vs (a:=f) (b:=p) (by omega)
 generalize bL f p=q at *
 have F:=q.den_nz
 refine ⟨fun L s=>s=t/\L=[I q.num,I (q.den:Int)],I8 (fun j=>?_) (fun j=>?_),?_⟩
 ·have A:(if (B5 (0-f))>f then B5 (0-f) else f)=((f.natAbs:Nat):Int):=by
   rw [B7 (by omega) (by omega)];split<;>omega
  obtain ⟨k,rfl⟩:∃ k:Nat,p=k:=⟨p.toNat,by omega⟩
  rw [A]
  refine A31 ⟨_,rfl,?_⟩
  have W:0<aQ f.natAbs k:=dH _ (by omega)
  refine B6 (fun e=>by omega) (fun _=>B6 (fun e=>by omega) (fun _=>⟨rfl,?_⟩))
  have z:Int.tdiv f ((aQ f.natAbs k:Nat):Int)=q.num:=g.1.symm
  have T:Int.tdiv (k:Int) ((aQ f.natAbs k:Nat):Int)=(q.den:Int):=g.2.symm
  rw [z,T,B7 (by omega) (by omega),B7 (by omega) (by omega)]
 ·subst j
  have O:aS f 1=1:=by simp
  rw [O] at g
  simp at g
  refine ⟨rfl,?_⟩
  rw [g.1]
  simp only [aD,aK,and_true,true_and];omega
 rintro n2 d2 m ⟨rfl,l⟩
 simp only [aD,aK,and_true,true_and] at l
 obtain ⟨rfl,rfl⟩:=l
 refine D9 (fun j=>?_) (fun j=>?_)
 ·rw [A04 (by omega)] at hK
  exact La gp (by omega) (by omega) ⟨_,rfl,B4 _,hK⟩
 ·rw [A2x (by omega)] at hK
  refine Dv B8n ?_
  intro b J
  have S:(Value.agg (cI 48 (.int .u8 0))).cells=(aE 48 (bW .u8 0)).toArray:=by rfl
  rw [S]
  refine ⟨_,rfl,⟨by omega,by omega⟩,?_⟩
  have o:J9 (some ⟨b,0,none⟩) 48 0 1=some ⟨b,0,none⟩:=rfl
  rw [o,show ((0:Int)).toNat-0=0 from rfl,show 48-0=48 from rfl]
  have H:cT (m.put b (.cells (aE 48 (bW .u8 0)).toArray B21)) m B21 1 (some ⟨b,0,none⟩) 0 48 (yv []):=⟨by simp [yv],by omega,.inr ⟨b,aE 48 (bW .u8 0),rfl,J,rfl,by simp,by simp [yv]⟩⟩
  refine Lg gp H (by omega) (by omega) (by omega) ?_
  intro A1 Q c1 A g1 Z y
  refine ⟨_,_,_,rfl,?_⟩
  have N:(Hs q.num).length<=20:=by
   unfold Hs
   have:(O1 q.num.natAbs).length<=19:=(Pc (by decide)).2 (aU (show q.num.natAbs<10000000000000000000 by omega) (by decide))
   split<;>simp<;>omega
  have ac:=y.len
  refine Gh (ch:=47) rfl y.priv (by omega) ?_
  intro A2 M c2 e2 g2 aa D
  have i:=y.trans D
  have u:=i.len
  rw [aL,cK] at u
  refine Lg (gp.mono i.le) D.priv (by omega) (by omega) (by omega) ?_
  intro A3 G c3 z g3 E C
  refine ⟨_,_,_,rfl,?_⟩
  rw [aR] at C
  have c:=i.trans C
  have r:=c.len
  refine Kb Eo.und Ct T7 c.priv.slV (by simpa using r) ⟨_,rfl,?_⟩
  refine ⟨B0 c.le c.priv.le,?_⟩
  simpa using hK
end
structure RQ (h:aV) (w:QV) (q:Rat):Prop where
 num:ZI h w.s w.A w.n w.c q.num
 den:ZI h w.s2 w.A2 w.n2 w.c2 (if q.den=1 then 0 else (q.den:Int))
def ZB.gcd{m:Nat}{x y:Int}(hy:y≠0)(h:ZB m y):ZB m (aS x y:Int):=by
 refine h.le ?_
 rw [aC]
 exact dG (by omega) (Int.natAbs_dvd_natAbs.2 (Int.gcd_dvd_right x y))
def C1g{x y a b:Int}(ha:0<a)(hb:0<b)(hs:x.sign≠y.sign):Fg (x*a) (y*b)=Fg x y:=by
 have g:(x*a).sign=x.sign:=by rw [Int.sign_mul,aJ ha,Int.mul_one]
 have f:(y*b).sign=y.sign:=by rw [Int.sign_mul,aJ hb,Int.mul_one]
 have key:∀ u v:Int,u.sign≠v.sign->(u<v↔u.sign<v.sign)/\(v<u↔v.sign<u.sign):=by
  intro u v h
  have t:∀ w:Int,(w<0/\w.sign= -1)\/(w=0/\w.sign=0)\/(0<w/\w.sign=1):=fun w=>by
   rcases Int.lt_trichotomy w 0 with c|c|c
   ·exact .inl ⟨c,bN c⟩
   ·exact .inr (.inl ⟨c,by rw [c];rfl⟩)
   ·exact .inr (.inr ⟨c,aJ c⟩)
  have k:=t u
  have l:=t v
  omega
 have i:=key x y hs
 have d:=key (x*a) (y*b) (by rw [g,f];exact hs)
 rw [g,f] at d
 unfold Fg
 by_cases c:x<y
 ·rw [iP c,iP (d.1.2 (i.1.1 c))]
 ·rw [iN c,iN (fun e=>c (i.1.2 (d.1.1 e)))]
  by_cases j:y<x
  ·rw [iP j,iP (d.2.2 (i.2.1 j))]
  ·rw [iN j,iN (fun e=>j (i.2.2 (d.2.1 e)))]
section
variable {h h':aV} {K:VP} {A B:Option aN} {n c n' c':Nat} {s s':Bool} {x y z:Int} {m:Nat} {p q:Rat} {a b w:QV} {l:List UInt8}
def RQ.mono(hl:h.le h')(i:RQ h w q):RQ h' w q:=⟨i.num.mono hl,i.den.mono hl⟩
def RQ.whole(i:ZI h s A n c z):RQ h ⟨s,A,n,c,false,none,0,0⟩ (z:Rat):=⟨by simpa using i,by simpa using ZI.zero⟩
def RQ.zero:RQ h ⟨false,none,0,0,false,none,0,0⟩ 0:=⟨ZI.zero,ZI.zero⟩
def O0(i:RQ h w q)(hK:K (.bool (decide (q.den=1))) h):aF prog E8 #[.agg #[.bool w.s2,.slice w.A2 w.n2 w.c2]] h K:=by
 refine G0 i.den ?_
 have:=q.den_nz
 have e:decide ((if q.den=1 then (0:Int) else (q.den:Int))=0)=decide (q.den=1):=by
  rw [decide_eq_decide];split<;>omega
 rw [e];exact hK
def T5(i:ZI h s A n c z)(j:ZI h s' B n' c' y)(h1:q.num=z)(h2:(q.den:Int)=y)(hK:∀ w,RQ h w q->K w.v h):aF prog V8 #[.agg #[.bool s,.slice A n c],.agg #[.bool s',.slice B n' c']] h K:=by
 subst h1 h2
 refine B17 _ _ _ _ _ _ _ _ ?_
 unfold B5q
 refine Q8 j ⟨_,rfl,B6 (fun e=>?_) (fun e=>?_)⟩
 ·exact hK ⟨s,A,n,c,false,none,0,0⟩ ⟨i,by rw [iP (by omega)];exact ZI.zero⟩
 ·exact hK ⟨s,A,n,c,s',B,n',c'⟩ ⟨i,by rw [iN (by omega)];exact j⟩
def Es(i:RQ h w q)(hK:∀ s A n c h',h.le h'->ZI h' s A n c (q.den:Int)->K (.agg #[.bool s,.slice A n c]) h'):aF prog Rt #[w.v] h K:=by
 refine C38 _ _ _ _ _ _ _ _ ?_
 unfold C7q
 refine O0 i ⟨_,rfl,B6 (fun e=>?_) (fun e=>?_)⟩
 ·refine Ek (by decide) (by decide) ?_
  intro s A n c d b a
  exact ⟨_,_,_,_,rfl,hK _ _ _ _ _ b (by rw [e];exact a)⟩
 ·have:=i.den
  rw [iN e] at this
  exact hK _ _ _ _ _ (B4 _) this
def Vy(gl:Gtz h)(i:ZI h s A n c x)(j:ZI h s' B n' c' y)(hx:ZB m x)(hy:ZB m y)(hm:m<=6400000000)(hy0:0<y)(hK:∀ s1 A1 n1 c1 s2 A2 n2 c2 h',h.le h'->ZI h' s1 A1 n1 c1 (x.tdiv (aS x y))->ZI h' s2 A2 n2 c2 (y.tdiv (aS x y))->K (.tuple #[.agg #[.bool s1,.slice A1 n1 c1],.agg #[.bool s2,.slice A2 n2 c2]]) h'):aF prog Ol #[.agg #[.bool s,.slice A n c],.agg #[.bool s',.slice B n' c']] h K:=by
 refine B18 _ _ _ _ _ _ _ _ ?_
 unfold B5s
 refine Q8 j ⟨_,rfl,B6 (fun e=>?_) (fun e=>?_)⟩
 ·subst e
  have g:aS x 1=1:=by simp
  rw [g] at hK
  exact hK _ _ _ _ _ _ _ _ _ (B4 _) (by simpa using i) (by simpa using j)
 ·refine Cr gl i j hx hy hm ?_
  intro A1 n1 c1 q f k
  have g:=Int.gcd_pos_of_ne_zero_right x (show y≠0 by omega)
  have a:ZB m (aS x y:Int):=ZB.gcd (by omega) hy
  refine ⟨_,_,_,_,rfl,Q7 (i.mono f) k hx a hm (by omega) ?_⟩
  intro s2 A2 n2 c2 t b o
  refine ⟨_,_,_,_,rfl,b,Q7 (j.mono (B0 f b)) (k.mono b) hy a hm (by omega) ?_⟩
  intro u A3 p r w d l
  exact ⟨_,_,_,_,rfl,d,hK _ _ _ _ _ _ _ _ _ (B0 f (B0 b d)) (o.mono d) l⟩
def Yh(i:RQ h w q)(hK:∀ w',RQ h w' (-q)->K w'.v h):aF prog A8w #[w.v] h K:=by
 refine C35 _ _ _ _ _ _ _ _ ?_
 unfold C7n
 refine U6 i.num ?_
 intro a b
 exact ⟨_,_,_,_,rfl,B4 _,hK ⟨a,w.A,w.n,w.c,w.s2,w.A2,w.n2,w.c2⟩ ⟨by simpa using b,by simpa using i.den⟩⟩
def Ge(i:RQ h w q)(hK:K (I q.num.sign) h):aF prog Qp #[w.v] h K:=by
 refine B8x _ _ _ _ _ _ _ _ ?_
 unfold C53
 exact Ej i.num ⟨_,rfl,hK⟩
def A3i(i:RQ h w q)(hK:K (.bool (decide (q=0))) h):aF prog Om #[w.v] h K:=by
 refine B1b _ _ _ _ _ _ _ _ ?_
 unfold B5y
 refine G0 i.num ⟨_,rfl,?_⟩
 have e:decide (q.num=0)=decide (q=0):=by rw [decide_eq_decide];exact cC
 rw [e];exact hK
def Yk(gl:Gtz h)(i:RQ h a p)(j:RQ h b q)(hp:Sz m p)(hq:Sz m q)(hm:2*m+1<=6400000000)(hK:∀ w h',h.le h'->RQ h' w (p+q)->K w.v h'):aF prog A8z #[a.v,b.v] h K:=by
 have ao:=p.den_nz
 have ap:=q.den_nz
 have M:∀ {z:Int},ZB m z->ZB (2*m+1) z:=fun s=>s.mono (by omega)
 refine C39 _ _ _ _ _ _ _ _ _ _ _ _ _ _ _ _ ?_
 unfold C7r
 refine ⟨fun L hp=>L=[.bool (decide (p.den=1/\q.den=1))]/\hp=h,O0 i ⟨_,rfl,B6 (fun e=>?_) (fun e=>?_)⟩,?_⟩
 ·exact O0 j ⟨_,rfl,by simp [e],rfl⟩
 ·exact ⟨by simp [e],rfl⟩
 rintro ad af ⟨hL,rfl⟩
 obtain rfl:ad=decide (p.den=1/\q.den=1):=by simpa using hL
 refine B6 (fun e=>?_) (fun e=>?_)
 ·refine Hx i.num j.num hp.num hq.num (by omega) ?_
  intro s1 A1 n1 c1 h1 f Q
  refine ⟨_,_,_,_,rfl,hK ⟨s1,A1,n1,c1,false,none,0,0⟩ _ f ?_⟩
  have:=RQ.whole Q
  rw [dA,<- Yv e.1,<- Yv e.2] at this
  exact this
 ·refine ⟨fun L hp=>L=[.bool (decide (p.den=1))]/\hp=af,O0 i ⟨_,rfl,rfl,rfl⟩,?_⟩
  rintro ah an ⟨hL,rfl⟩
  obtain rfl:ah=decide (p.den=1):=by simpa using hL
  refine B6 (fun S=>?_) (fun S=>?_)
  ·have ak:q.den≠1:=fun N=>e ⟨S,N⟩
   have jd:=j.den
   rw [iN ak] at jd
   refine L4 i.num jd hp.num hq.den (by omega) ?_
   intro s1 A1 n1 c1 h1 f Q
   refine ⟨_,_,_,_,rfl,f,Hx (m:=2*m+1) Q (j.num.mono f) ((hp.num.mul hq.den).mono (by omega)) (M hq.num) hm ?_⟩
   intro s2 A2 Z c2 h2 l i2
   have c:=Pg q p.num
   rw [<- Yv S,Rat.add_comm] at c
   refine ⟨_,_,_,_,rfl,l,hK ⟨s2,A2,Z,c2,b.s2,b.A2,b.n2,b.c2⟩ _ (B0 f l) ⟨by rw [c.1];exact i2,?_⟩⟩
   rw [c.2]
   exact j.den.mono (B0 f l)
  ·refine O0 j ⟨_,rfl,B6 (fun N=>?_) (fun N=>?_)⟩
   ·have d:=i.den
    rw [iN S] at d
    refine L4 j.num d hq.num hp.den (by omega) ?_
    intro s1 A1 n1 c1 h1 f Q
    refine ⟨_,_,_,_,rfl,f,Hx (m:=2*m+1) Q (i.num.mono f) ((hq.num.mul hp.den).mono (by omega)) (M hp.num) hm ?_⟩
    intro s2 A2 Z c2 h2 l i2
    have c:=Pg p q.num
    rw [<- Yv N] at c
    refine ⟨_,_,_,_,rfl,l,hK ⟨s2,A2,Z,c2,a.s2,a.A2,a.n2,a.c2⟩ _ (B0 f l) ⟨by rw [c.1];exact i2,?_⟩⟩
    rw [c.2]
    exact i.den.mono (B0 f l)
   ·have d:=i.den
    have o:=j.den
    rw [iN S] at d
    rw [iN N] at o
    refine Cr gl d o hp.den hq.den (by omega) ?_
    intro A1 n1 c1 h1 f F
    rw [dL] at F
    obtain ⟨g,hg⟩:∃ g,g=p.den.gcd q.den:=⟨_,rfl⟩
    rw [<- hg] at F
    have R:0<g:=by rw [hg];exact Nat.gcd_pos_of_pos_left _ (by omega)
    have aa:g∣q.den:=by rw [hg];exact bV ..
    have t:ZB m (g:Int):=hq.den.le (by simpa using dG (by omega) aa)
    refine ⟨_,_,_,_,rfl,Q7 (o.mono f) F hq.den t (by omega) (by omega) ?_⟩
    intro s2 A2 Z c2 h2 l il
    rw [<- cM] at il
    refine ⟨_,_,_,_,rfl,l,Q7 (d.mono (B0 f l)) (F.mono l) hp.den t (by omega) (by omega) ?_⟩
    intro s3 A3 n3 c3 h3 W ir
    rw [<- cM] at ir
    have A:ZB m ((q.den/g:Nat):Int):=hq.den.le (by rw [aC,aC];exact aZ _ _)
    have x:ZB m ((p.den/g:Nat):Int):=hp.den.le (by rw [aC,aC];exact aZ _ _)
    have D:=B0 f (B0 l W)
    refine ⟨_,_,_,_,rfl,W,L4 (i.num.mono D) (il.mono W) hp.num A (by omega) ?_⟩
    intro s4 A4 n4 c4 h4 B i4
    refine ⟨_,_,_,_,rfl,B,L4 (j.num.mono (B0 D B)) (ir.mono B) hq.num x (by omega) ?_⟩
    intro s5 A5 n5 c5 h5 G i5
    refine ⟨_,_,_,_,rfl,G,Hx (m:=2*m) (i4.mono G) i5 ((hp.num.mul A).mono (by omega)) ((hq.num.mul x).mono (by omega)) (by omega) ?_⟩
    intro s6 A6 n6 c6 h6 O T
    obtain ⟨z,s⟩:∃ z,z=p.num*((q.den/g:Nat):Int)+q.num*((p.den/g:Nat):Int):=⟨_,rfl⟩
    rw [<- s] at T
    have X:ZB (2*m+1) z:=by
     rw [s]
     exact ((hp.num.mul A).mono (show m+m<=2*m by omega)).add ((hq.num.mul x).mono (show m+m<=2*m by omega))
    have k:=B0 D (B0 B (B0 G O))
    refine ⟨_,_,_,_,rfl,O,G0 T ⟨_,rfl,B6 (fun C=>?_) (fun C=>?_)⟩⟩
    ·have:p+q=0:=by
      rw [<- cC]
      by_cases u:p.den.gcd q.den=1
      ·have:=(Zf p q u).1
       rw [<- hg] at u
       rw [u,cY,cY] at s
       rw [this,<- s,C]
      ·have:=(Ze p q u hg s rfl).1
       rw [this,C];simp
     rw [this] at hK
     exact hK ⟨false,none,0,0,false,none,0,0⟩ _ k RQ.zero
    ·refine Q8 (F.mono (B0 l (B0 W (B0 B (B0 G O))))) ⟨_,rfl,B6 (fun ae=>?_) (fun ae=>?_)⟩
     ·have n:g=1:=by omega
      have c:=Zf p q (by rw [<- hg];exact n)
      rw [n,cY,cY] at s
      refine L4 (d.mono k) (o.mono k) hp.den hq.den (by omega) ?_
      intro s7 A7 n7 c7 h7 y V
      refine ⟨_,_,_,_,rfl,y,T5 (q:=p+q) (T.mono y) V (by rw [c.1,s]) (by rw [c.2,aP]) ?_⟩
      intro w iw
      exact ⟨_,_,_,_,_,_,_,_,rfl,B4 _,hK _ _ (B0 k y) iw⟩
     ·have n:p.den.gcd q.den≠1:=by rw [<- hg];omega
      obtain ⟨r,hr⟩:∃ r,r=z.natAbs.gcd g:=⟨_,rfl⟩
      have c:=Ze p q n hg s hr
      have aq:0<r:=by rw [hr];exact dH _ R
      have ac:r<=g:=by rw [hr];exact dG R (bV ..)
      have ai:=F.mono (B0 l (B0 W (B0 B (B0 G O))))
      refine Cr (gl.mono k) T ai X (M t) hm ?_
      intro A7 n7 c7 h7 y V
      have e7:aS z (g:Int)=r:=hr.symm
      rw [e7] at V
      have H:ZB m (r:Int):=t.le (by simpa using ac)
      refine ⟨_,_,_,_,rfl,Q7 (T.mono y) V X (M H) hm (by omega) ?_⟩
      intro s8 A8 n8 c8 h8 J i8
      refine ⟨_,_,_,_,rfl,J,Q7 (o.mono (B0 k (B0 y J))) (V.mono J) hq.den H (by omega) (by omega) ?_⟩
      intro s9 A9 n9 c9 h9 l9 i9
      rw [<- cM] at i9
      have ag:ZB m ((q.den/r:Nat):Int):=hq.den.le (by rw [aC,aC];exact aZ _ _)
      refine ⟨_,_,_,_,rfl,l9,L4 (ir.mono (B0 B (B0 G (B0 O (B0 y (B0 J l9)))))) i9 x ag (by omega) ?_⟩
      intro am A10 al au ar E aj
      refine ⟨_,_,_,_,rfl,E,T5 (q:=p+q) (i8.mono (B0 l9 E)) aj c.1 (by rw [c.2,aP]) ?_⟩
      intro w iw
      exact ⟨_,_,_,_,_,_,_,_,rfl,B4 _,hK _ _ (B0 k (B0 y (B0 J (B0 l9 E)))) iw⟩
def B06(gl:Gtz h)(i:RQ h a p)(j:RQ h b q)(hp:Sz m p)(hq:Sz m q)(hm:2*m+1<=6400000000)(hK:∀ w h',h.le h'->RQ h' w (p-q)->K w.v h'):aF prog B4d #[a.v,b.v] h K:=by
 refine C34 _ _ _ _ _ _ _ _ _ _ _ _ _ _ _ _ ?_
 unfold C7m
 refine Yh j ?_
 intro g e
 refine ⟨_,_,_,_,_,_,_,_,rfl,B4 _,Yk gl i e hp hq.neg hm ?_⟩
 intro k f d c
 rw [<- Rat.sub_eq_add_neg] at c
 exact ⟨_,_,_,_,_,_,_,_,rfl,d,hK _ _ d c⟩
end
structure Gl (h:aV):Prop where
 tz:Gtz h
 p10:Gp h
def Gl.mono{h h':aV}(g:Gl h)(l:h.le h'):Gl h':=⟨g.tz.mono l,g.p10.mono l⟩
section
variable {h h':aV} {K:VP} {A B:Option aN} {n c n' c':Nat} {s s':Bool} {x y z:Int} {m:Nat} {p q:Rat} {a b w:QV} {l:List UInt8}
def Yi(gl:Gtz h)(i:RQ h a p)(j:RQ h b q)(hp:Sz m p)(hq:Sz m q)(hm:m<=6400000000)(hK:∀ w h',h.le h'->RQ h' w (p*q)->K w.v h'):aF prog A8x #[a.v,b.v] h K:=by
 have V:=p.den_nz
 have E:=q.den_nz
 refine C36 _ _ _ _ _ _ _ _ _ _ _ _ _ _ _ _ ?_
 unfold C7o
 refine ⟨fun L hp=>L=[.bool (decide (p.num=0\/q.num=0))]/\hp=h,G0 i.num ⟨_,rfl,B6 (fun e=>?_) (fun e=>?_)⟩,?_⟩
 ·exact ⟨by simp [e],rfl⟩
 ·exact G0 j.num ⟨_,rfl,by simp [e],rfl⟩
 rintro y u ⟨r,rfl⟩
 obtain rfl:y=decide (p.num=0\/q.num=0):=by simpa using r
 refine B6 (fun e=>?_) (fun e=>?_)
 ·have:p*q=0:=by
   rw [cC,cC] at e
   exact Rat.mul_eq_zero.2 e
  rw [this] at hK
  exact hK ⟨false,none,0,0,false,none,0,0⟩ _ (B4 _) RQ.zero
 ·refine ⟨fun L hp=>L=[.bool (decide (p.den=1/\q.den=1))]/\hp=u,O0 i ⟨_,rfl,B6 (fun e=>?_) (fun e=>?_)⟩,?_⟩
  ·exact O0 j ⟨_,rfl,by simp [e],rfl⟩
  ·exact ⟨by simp [e],rfl⟩
  rintro o Q ⟨r,rfl⟩
  obtain rfl:o=decide (p.den=1/\q.den=1):=by simpa using r
  refine B6 (fun e=>?_) (fun e=>?_)
  ·refine L4 i.num j.num hp.num hq.num hm ?_
   intro C A1 D c1 O f J
   refine ⟨_,_,_,_,rfl,hK ⟨C,A1,D,c1,false,none,0,0⟩ _ f ?_⟩
   have:=RQ.whole J
   rw [Rat.intCast_mul,<- Yv e.1,<- Yv e.2] at this
   exact this
  ·have g:=B3s p q
   refine Es j ?_
   intro C A1 D c1 O f G
   refine ⟨_,_,_,_,rfl,f,Vy (gl.mono f) (i.num.mono f) G hp.num hq.den hm (by omega) ?_⟩
   intro s2 A2 n2 c2 s3 A3 n3 c3 h2 B A n
   have c:=B0 f B
   refine ⟨_,_,_,_,_,_,_,_,rfl,B,Es (i.mono c) ?_⟩
   intro s4 A4 n4 c4 X d t
   refine ⟨_,_,_,_,rfl,d,Vy (gl.mono (B0 c d)) (j.num.mono (B0 c d)) t hq.num hp.den hm (by omega) ?_⟩
   intro s5 A5 n5 c5 s6 A6 n6 c6 h5 l z x
   have H:aS p.num (q.den:Int)=aQ p.num.natAbs q.den:=rfl
   have S:aS q.num (p.den:Int)=aQ q.num.natAbs p.den:=rfl
   rw [H] at A n
   rw [S] at z x
   rw [<- cM] at n x
   refine ⟨_,_,_,_,_,_,_,_,rfl,l,L4 (A.mono (B0 d l)) z hp.num.tdiv hq.num.tdiv hm ?_⟩
   intro s7 A7 Z W h7 k N
   have F:ZB m ((p.den/aQ q.num.natAbs p.den:Nat):Int):=hp.den.le (by rw [aC,aC];exact aZ _ _)
   have R:ZB m ((q.den/aQ p.num.natAbs q.den:Nat):Int):=hq.den.le (by rw [aC,aC];exact aZ _ _)
   refine ⟨_,_,_,_,rfl,k,L4 (x.mono k) (n.mono (B0 d (B0 l k))) F R hm ?_⟩
   intro s8 A8 n8 c8 h8 s M
   refine ⟨_,_,_,_,rfl,s,T5 (q:=p*q) (N.mono s) M g.1 (by rw [g.2,aP]) ?_⟩
   intro w T
   exact ⟨_,_,_,_,_,_,_,_,rfl,B4 _,hK _ _ (B0 c (B0 d (B0 l (B0 k s)))) T⟩
def A0g(i:RQ h w q)(hK:∀ w h',h.le h'->RQ h' w q⁻¹->K w.v h'):aF prog Qq #[w.v] h K:=by
 have m:=q.den_nz
 refine A7q _ _ _ _ _ _ _ _ ?_
 unfold A9o
 refine Ej i.num ⟨_,rfl,D9 (fun e=>?_) (fun e=>?_)⟩
 ·have d:q.num=0:=Int.sign_eq_zero_iff_zero.1 e
  have:q⁻¹=0:=by rw [Rat.num_eq_zero.1 d];exact Rat.inv_zero
  rw [this] at hK
  exact hK ⟨false,none,0,0,false,none,0,0⟩ _ (B4 _) RQ.zero
 ·have d:q.num≠0:=fun p=>e (by rw [p];rfl)
  refine D9 (fun g=>?_) (fun g=>?_)
  ·have k:q.num<0:=Int.sign_neg_iff.1 (by omega)
   refine Es i ?_
   intro r A1 n c1 a b f
   refine ⟨_,_,_,_,rfl,b,U6 f ?_⟩
   intro s o
   refine ⟨_,_,_,_,rfl,B4 _,U6 (i.num.mono b) ?_⟩
   intro t l
   refine ⟨_,_,_,_,rfl,B4 _,T5 (q:=q⁻¹) o l ?_ ?_ ?_⟩
   ·rw [Rat.num_inv,g];omega
   ·rw [Rat.den_inv,iN d];omega
   ·intro w j
    exact ⟨_,_,_,_,_,_,_,_,rfl,B4 _,hK _ _ b j⟩
  ·have c:0<q.num:=by
    rcases Int.lt_trichotomy q.num 0 with a|a|a
    ·exact absurd (bN a) g
    ·exact absurd a d
    ·exact a
   refine Es i ?_
   intro r A1 n c1 a b f
   refine ⟨_,_,_,_,rfl,b,T5 (q:=q⁻¹) f (i.num.mono b) ?_ ?_ ?_⟩
   ·rw [Rat.num_inv,aJ c,Int.one_mul]
   ·rw [Rat.den_inv,iN d];omega
   ·intro w j
    exact ⟨_,_,_,_,_,_,_,_,rfl,B4 _,hK _ _ b j⟩
def B08(gl:Gtz h)(i:RQ h a p)(j:RQ h b q)(hp:Sz m p)(hq:Sz m q)(hm1:1<=m)(hm:m<=6400000000)(hK:∀ w h',h.le h'->RQ h' w (p/q)->K w.v h'):aF prog A8y #[a.v,b.v] h K:=by
 refine C37 _ _ _ _ _ _ _ _ _ _ _ _ _ _ _ _ ?_
 unfold C7p
 refine A0g j ?_
 intro g k c f
 refine ⟨_,_,_,_,_,_,_,_,rfl,c,Yi (gl.mono c) (i.mono c) f hp (hq.inv hm1) hm ?_⟩
 intro n l e d
 rw [<- Rat.div_def] at d
 exact ⟨_,_,_,_,_,_,_,_,rfl,e,hK _ _ (B0 c e) d⟩
def Ro(i:RQ h w q)(hq:Sz m q)(hm:m+1<=6400000000)(hK:∀ s A n c h',h.le h'->ZI h' s A n c q.floor->K (.agg #[.bool s,.slice A n c]) h'):aF prog Tk #[w.v] h K:=by
 have b:=q.den_nz
 refine B5z _ _ _ _ _ _ _ _ ?_
 unfold C0l
 rw [Rat.floor_def] at hK
 refine O0 i ⟨_,rfl,B6 (fun e=>?_) (fun e=>?_)⟩
 ·rw [e] at hK
  exact hK _ _ _ _ _ (B4 _) (by simpa using i.num)
 ·have a:=i.den
  rw [iN e] at a
  refine Xb i.num a hq.num hq.den hm (by omega) ?_
  intro k A1 g c1 j f d
  exact ⟨_,_,_,_,rfl,hK _ _ _ _ _ f d⟩
def B09(i:RQ h w q)(hq:Sz m q)(hm:m+1<=6400000000)(hK:∀ s A n c h',h.le h'->ZI h' s A n c q.ceil->K (.agg #[.bool s,.slice A n c]) h'):aF prog A6w #[w.v] h K:=by
 refine B8y _ _ _ _ _ _ _ _ ?_
 unfold C54
 refine Yh i ?_
 intro f b
 refine ⟨_,_,_,_,_,_,_,_,rfl,Ro b hq.neg hm ?_⟩
 intro g A2 j c2 k e d
 refine ⟨_,_,_,_,rfl,U6 d ?_⟩
 intro l a
 rw [<- dE] at a
 exact ⟨_,_,_,_,rfl,hK _ _ _ _ _ e a⟩
def B8e(p q:Rat):Int:=Fg (p.num*q.den) (q.num*p.den)
def B4x:B8e p q<0↔p<q:=by rw [aX];unfold B8e Fg;split<;>(try split)<;>omega
def C2g:0<B8e p q↔q<p:=by rw [aX];unfold B8e Fg;split<;>(try split)<;>omega
def B4y:B8e p q<=0↔p<=q:=by rw [<- Rat.not_lt,<- C2g];omega
def A0h(i:RQ h a p)(j:RQ h b q)(hp:Sz m p)(hq:Sz m q)(hm:2*m<=6400000000)(hK:K (I (B8e p q)) h):aF prog Qr #[a.v,b.v] h K:=by
 have x:=p.den_nz
 have o:=q.den_nz
 refine FCall.pure (A7r _ _ _ _ _ _ _ _ _ _ _ _ _ _ _ _ ?_)
 unfold A9p
 refine ⟨fun L hp=>L=[.bool (decide ((p.den=1/\q.den=1)\/p.num.sign≠q.num.sign))]/\hp=h,O0 i ⟨_,rfl,B4 _,B6 (fun e=>O0 j ⟨_,rfl,B4 _,B6 (fun l=>?_) (fun l=>?_)⟩) (fun e=>?_)⟩,?_⟩
 ·exact ⟨by simp [e,l],rfl⟩
 ·refine Ge i ⟨_,rfl,B4 _,Ge j ⟨_,rfl,B4 _,?_,rfl⟩⟩
  simp [l,bne]
  rw [bJ];simp
 ·refine Ge i ⟨_,rfl,B4 _,Ge j ⟨_,rfl,B4 _,?_,rfl⟩⟩
  simp [e,bne]
  rw [bJ];simp
 rintro k t ⟨s,rfl⟩
 obtain rfl:k=decide ((p.den=1/\q.den=1)\/p.num.sign≠q.num.sign):=by simpa using s
 refine B6 (fun e=>?_) (fun e=>?_)
 ·refine Nf i.num j.num hp.num hq.num (by omega) ⟨_,rfl,B4 _,?_⟩
  have:Fg p.num q.num=B8e p q:=by
   unfold B8e
   rcases e with e|e
   ·rw [e.1,e.2];simp
   ·exact (C1g (by omega) (by omega) e).symm
  rw [this];exact hK
 ·refine Es j ?_
  intro J A1 M c1 B c r
  refine ⟨_,_,_,_,rfl,c,L4 (i.num.mono c) r hp.num hq.den (by omega) ?_⟩
  intro z A2 G c2 H f w
  refine ⟨_,_,_,_,rfl,f,Es (i.mono (B0 c f)) ?_⟩
  intro O A3 N F D d n
  refine ⟨_,_,_,_,rfl,d,L4 (j.num.mono (B0 c (B0 f d))) n hq.num hp.den (by omega) ?_⟩
  intro A A4 E C y g u
  refine ⟨_,_,_,_,rfl,g,Nf (m:=m+m) (w.mono (B0 d g)) u (hp.num.mul hq.den) (hq.num.mul hp.den) (by omega) ⟨_,rfl,B4 _,?_⟩⟩
  exact ⟨B0 c (B0 f (B0 d g)),hK⟩
def A1s{t:List UInt8}{k:Nat}(h:∀ c∈t,G9 c)(hk:t.length<=k):ZB (4*k) (J4 t:Int):=by
 unfold ZB
 rw [aC]
 exact aU (Dc h) (aM (by decide) (by omega))
def Form.lens{neg:Bool}{a b:List UInt8}(f:Form l neg a b):a.length<=l.length/\b.length<=l.length:=by
 have:=congrArg List.length f.eq
 simp only [aL] at this
 by_cases c:b=[]
 ·rw [iP c] at this;subst c;simp at this ⊢;omega
 ·rw [iN c] at this;simp at this;omega
def Yj(gl:Gtz h)(hl:l.length<=100000000)(hK1:∀ q,l=H1 q->∀ w h',h.le h'->RQ h' w q->K (.tuple #[w.v,.bool true]) h')(hK0:¬ IsNum l->∀ (w:QV) h',h.le h'->RQ h' w 0->K (.tuple #[w.v,.bool false]) h'):aF prog A1b #[.string (bs l)] h K:=by
 refine B8v _ ?_
 unfold C51
 refine Qc (by omega) ?_ ?_
 ·intro neg a b f
  refine ⟨_,_,_,_,rfl,P6 ?_⟩
  have M:=f.lens
  refine Kf f.da (by omega) ?_
  intro A1 J c1 G r F
  refine ⟨_,_,_,_,rfl,?_⟩
  refine ⟨fun L hp=>∃ i:Bool,L=[.bool i,.slice A1 J c1,.bool false,.slice none 0 0]/\hp=G/\ZI G i A1 J c1 (Vl neg a),Br.of (fun e=>?_) (fun e=>?_),?_⟩
  ·refine U6 F ?_
   intro i p
   exact ⟨_,_,_,_,rfl,i,rfl,rfl,by unfold Vl;rw [e];exact p⟩
  ·exact ⟨false,rfl,rfl,by unfold Vl;rw [e];exact F⟩
  rintro O g n m x2 X Z Q V ⟨i,D,rfl,p⟩
  simp only [aD,aO,Value.bool.injEq,and_true] at D
  obtain ⟨rfl,⟨rfl,rfl,rfl⟩,rfl,rfl,rfl,rfl⟩:=D
  have c:(Vl neg a).natAbs=J4 a:=by unfold Vl;split<;>simp
  rw [Y9]
  refine B6 (fun s=>?_) (fun s=>?_)
  ·subst s
   obtain ⟨q,o⟩:=f.isNum.2 (by unfold Px;simp)
   obtain ⟨A,z⟩:=f.of_txt o
   refine hK1 q o ⟨O,g,n,m,false,none,0,0⟩ _ r ⟨by rw [A];exact p,?_⟩
   rw [z,show Px []=1 from rfl,iP rfl];exact ZI.zero
  ·refine Kf f.db (by omega) ?_
   intro A4 T S h4 j H
   have u:ZB (4*l.length) (Vl neg a):=(A1s f.da (k:=l.length) (by omega)).le (by rw [c,aC];exact bB _)
   refine ⟨_,_,_,_,rfl,Cr (gl.mono (B0 r j)) (p.mono j) H u (A1s f.db (k:=l.length) (by omega)) (by omega) ?_⟩
   intro A5 n5 c5 h5 t R
   refine ⟨_,_,_,_,rfl,Q8 R ⟨_,rfl,?_⟩⟩
   have d:Px b=J4 b:=by unfold Px;rw [iN s]
   have B:aS (Vl neg a) (J4 b:Int)=aQ (J4 a) (Px b):=by
    rw [d];show aQ (Vl neg a).natAbs (J4 b)=_;rw [c]
   rw [B]
   refine P6 (B6 (fun C=>?_) (fun C=>?_))
   ·obtain ⟨q,o⟩:=f.isNum.2 (by omega)
    obtain ⟨A,z⟩:=f.of_txt o
    have x:Px b≠1:=by
     intro W
     have N:=Pd f.db s (.inl f.hb)
     rw [<- d,W] at N
     apply f.b1
     rw [<- N];simp [O1,U5,I6,dch]
    refine hK1 q o ⟨O,g,n,m,false,A4,T,S⟩ _ (B0 r (B0 j t)) ⟨by rw [A];exact p.mono (B0 j t),?_⟩
    rw [z,iN x,d];exact H.mono t
   ·refine hK0 ?_ ⟨false,none,0,0,false,none,0,0⟩ _ (B0 r (B0 j t)) RQ.zero
    intro y
    exact C (by rw [f.isNum.1 y];rfl)
 ·intro hf neg a b
  refine ⟨_,_,_,_,rfl,P6 ?_⟩
  refine hK0 ?_ ⟨false,none,0,0,false,none,0,0⟩ _ (B4 _) RQ.zero
  intro y
  obtain ⟨E,a',b',f⟩:=y.form
  exact hf _ _ _ f
def K8(gl:Gtz h)(hl:l.length<=100000000)(hK:∀ w h',h.le h'->RQ h' w (rv l)->K w.v h'):aF prog N5 #[.string (bs l)] h K:=by
 refine B5m _ ?_
 unfold C0f
 refine Yj gl hl ?_ ?_
 ·intro q e w b c a
  exact ⟨_,_,_,_,_,_,_,_,_,rfl,hK w b c (by rw [e,D8];exact a)⟩
 ·intro d w b c a
  exact ⟨_,_,_,_,_,_,_,_,_,rfl,hK w b c (by rw [B2v d];exact a)⟩
def T8(gp:Gp h)(i:RQ h w q)(hq:Sz m q)(hm:m<=40000000)(hK:K (.string (bs (H1 q))) h):aF prog W4 #[w.v] h K:=by
 refine FCall.pure (B19 _ _ _ _ _ _ _ _ ?_)
 unfold B5w
 refine O0 i ⟨_,rfl,B6 (fun e=>?_) (fun e=>?_)⟩
 ·rw [A04 e] at hK
  refine A5q i.num (fun f n=>?_) (fun f=>?_)
  ·refine ⟨_,_,rfl,Br.of (fun _=>A7o _ ?_) (fun e=>by cases e)⟩
   unfold A9m
   exact La gp f n ⟨_,rfl,_,rfl,B4 _,hK⟩
  ·refine ⟨_,_,rfl,Br.of (fun e=>by cases e) (fun _=>?_)⟩
   exact Hu gp i.num hq.num (by omega) ⟨_,rfl,B4 _,hK⟩
 ·rw [A2x e] at hK
  have c:=i.den
  rw [iN e] at c
  refine Hw (l:=[]) (eT:=F9) gp (Priv.nil _ _ _ _) i.num hq.num (by omega) (by omega) ?_
  intro A1 B c1 t C f j
  refine ⟨_,_,_,rfl,?_⟩
  have p:(Hs q.num).length<=50000000:=by
   unfold Hs
   have:=Dd hq.num
   split<;>simp<;>omega
  have r:=j.len
  refine Gh (ch:=47) rfl j.priv (by omega) ?_
  intro A2 z c2 A x n o
  have b:=j.trans o
  have g:=b.len
  rw [aL,cK] at g
  refine Hw (gp.mono b.le) o.priv (c.mono b.le) hq.den (by omega) (by omega) ?_
  intro A3 E y s D u k
  refine ⟨_,_,_,rfl,?_⟩
  rw [aR] at k
  have a:=b.trans k
  have d:=a.len
  refine Kb Eo.und Ct T7 a.priv.slV (by simpa using d) ⟨_,rfl,?_⟩
  refine ⟨B0 a.le a.priv.le,?_⟩
  simpa using hK
end
structure Tx (m:Nat) (l:List UInt8):Prop where
 len:l.length<=100000000
 sz:Sz m (rv l)
def B72{m:Nat}{z:Int}(h:ZB m z):(Hs z).length<=m+2:=by
 have:=Dd h
 unfold Hs;split
 ·rw [cU];omega
 ·omega
def R8{m:Nat}{q:Rat}(h:Sz m q):(H1 q).length<=2*m+4:=by
 have b:=B72 h.num
 have a:=Dd (n:=q.den) (m:=m) (by have:=h.den;unfold ZB at this;simpa using this)
 unfold H1
 split
 ·simp;omega
 ·simp;omega
def Tx.of{m:Nat}{q:Rat}(h:Sz m q)(hm:m<=40000000):Tx m (H1 q):=⟨by have:=R8 h;omega,by rw [D8];exact h⟩
def Hi{x y:Int}(hx:x.natAbs<1000000000)(hy:y.natAbs<1000000000):(x*y).natAbs<1000000000000000000:=by
 rw [Int.natAbs_mul]
 exact Nat.mul_lt_mul'' hx hy
def A2w(q:Rat):∃ c r,H1 q=c::r/\(c=45↔q<0):=by
 have f:=Id q
 have a:H1 q≠[]:=by
  intro e
  have:=f.eq
  rw [e] at this
  have d:=f.ne
  have:=congrArg List.length this
  simp only [aL,List.length_nil] at this
  exact d (bG (by omega))
 obtain ⟨c,r,e⟩:=aY a
 refine ⟨c,r,e,?_⟩
 have b:=f.head
 rw [e,cG,bJ,decide_eq_true_iff,beq_iff_eq,aW] at b
 rw [<- b,aX];simp
def A86{q:Rat}(h:q<0):H1 q=45::H1 (-q):=by
 have a:q.num<0:=by have:=(aX q 0).1 h;simpa using this
 unfold H1
 rw [Rat.neg_num,Rat.neg_den,Ta a,Ka (i:= -q.num) (by omega),Int.natAbs_neg];simp
def C6x:rv [48]=0:=by
 have:[48]=H1 0:=by simp [H1,Hs,O1]
 rw [this,D8]
def B25:H1 0=[48]:=by simp [H1,Hs,O1]
def Ti{m:Nat}{q:Rat}(h:Sz m q):ZB m q.floor:=by
 rw [Rat.floor_def]
 exact h.num.le (Int.natAbs_ediv_le_natAbs _ _)
section
variable {h:aV} {K:VP} {m:Nat} {a b:List UInt8}
def Ch(gl:Gl h)(hl:a.length<=100000000)(hK1:IsNum a->K (.bool true) h)(hK0:¬ IsNum a->K (.bool false) h):aF prog Dl #[.string (bs a)] h K:=by
 refine FCall.pure (B5n _ ?_)
 unfold C0g
 refine Dz ?_ ?_
 ·intro q e _ _
  exact ⟨_,_,_,rfl,Br.of (fun _=>⟨B4 _,hK1 ⟨q,e⟩⟩) (fun e=>by cases e)⟩
 ·refine ⟨_,_,_,rfl,Br.of (fun e=>by cases e) (fun _=>?_)⟩
  refine Qc (by omega) ?_ ?_
  ·intro neg x y f
   refine ⟨_,_,_,_,rfl,Br.of (fun e=>by cases e) (fun _=>?_)⟩
   have m:=f.lens
   rw [Y9]
   refine B6 (fun e=>?_) (fun e=>?_)
   ·subst e
    exact ⟨B4 _,hK1 (f.isNum.2 (by unfold Px;simp))⟩
   ·refine Kf f.da (by omega) ?_
    intro A1 C c1 u g o
    refine ⟨_,_,_,_,rfl,g,Kf f.db (by omega) ?_⟩
    intro A2 A c2 B c p
    refine ⟨_,_,_,_,rfl,c,Cr (gl.tz.mono (B0 g c)) (o.mono c) p (A1s f.da (k:=a.length) (by omega)) (A1s f.db (k:=a.length) (by omega)) (by omega) ?_⟩
    intro A3 D z w l n
    refine ⟨_,_,_,_,rfl,l,Q8 n ⟨_,rfl,B4 _,B0 g (B0 c l),?_⟩⟩
    rw [dL]
    have b:Px y=J4 y:=by unfold Px;rw [iN e]
    by_cases i:aQ (J4 x) (J4 y)=1
    ·rw [decide_eq_true (by rw [i];rfl)]
     exact hK1 (f.isNum.2 (by rw [b];exact i))
    ·rw [decide_eq_false (by omega)]
     exact hK0 (fun d=>i (by rw [<- b];exact f.isNum.1 d))
  ·intro r neg x y
   refine ⟨_,_,_,_,rfl,Br.of (fun _=>⟨B4 _,hK0 ?_⟩) (fun e=>by cases e)⟩
   intro d
   obtain ⟨j,s,t,f⟩:=d.form
   exact r _ _ _ f
def C1i{q:Rat}(hq:q≠0)(hneg:¬ q<0):q.num.sign=1:=by
 have b:¬ q.num<0:=fun e=>hneg (by rw [aX];simpa using e)
 have a:q.num≠0:=fun e=>hq (Rat.num_eq_zero.1 e)
 exact aJ (by omega)
def Cj(gl:Gl h)(hl:a.length<=100000000)(hK:K (I (rv a).num.sign) h):aF prog Vh #[.string (bs a)] h K:=by
 refine B8u _ ?_
 unfold C50
 have b:((bs a).toList==({ data:=#[48] }:ByteArray).toList)=decide (a=[48]):=Lf a [48]
 rw [b]
 refine B6 (fun e=>?_) (fun e=>?_)
 ·subst e;rw [C6x] at hK;exact hK
 ·refine Ch gl hl ?_ ?_
  ·rintro ⟨q,rfl⟩
   rw [D8] at hK
   have f:q≠0:=by rintro rfl;exact e B25
   obtain ⟨c,r,j,i⟩:=A2w q
   refine ⟨_,rfl,P6 ?_⟩
   refine ⟨c,⟨by omega,by rw [Jc,j];rfl⟩,D9 (fun g=>?_) (fun g=>?_)⟩
   ·have d:c=45:=by apply UInt8.toNat_inj.1;show c.toNat=45;omega
    have:=(aX q 0).1 (i.1 d)
    rw [bN (by simpa using this)] at hK
    exact hK
   ·have d:¬ q<0:=fun l=>g (by rw [i.2 l];rfl)
    rw [C1i f d] at hK
    exact hK
  ·intro k
   rw [B2v k] at hK
   exact ⟨_,rfl,P6 hK⟩
def Ua(gl:Gl h)(hl:a.length<=100000000)(hK:K (.string (bs (H1 (-rv a)))) h):aF prog A4d #[.string (bs a)] h K:=by
 refine C2w _ ?_
 unfold C7h
 have d:((bs a).toList==({ data:=#[48] }:ByteArray).toList)=decide (a=[48]):=Lf a [48]
 rw [d]
 refine B6 (fun e=>?_) (fun e=>?_)
 ·subst e;rw [C6x,Rat.neg_zero,B25] at hK;exact hK
 ·refine Ch gl hl ?_ ?_
  ·rintro ⟨q,rfl⟩
   rw [D8] at hK
   have g:q≠0:=by rintro rfl;exact e B25
   obtain ⟨c,r,k,j⟩:=A2w q
   refine ⟨_,rfl,P6 ?_⟩
   refine ⟨c,⟨by omega,by rw [Jc,k];rfl⟩,D9 (fun i=>?_) (fun i=>?_)⟩
   ·have f:c=45:=by apply UInt8.toNat_inj.1;show c.toNat=45;omega
    have b:=A86 (j.1 f)
    rw [b,I7]
    refine ⟨⟨by omega,by simp;omega⟩,?_⟩
    rw [L0,show ((1:Int)).toNat=1 from rfl,bC (by simp),List.drop_succ_cons,bM]
    exact hK
   ·have f:¬ q<0:=fun m=>i (by rw [j.2 m];rfl)
    have n: -q<0:=by
     have:0<q:=Rat.lt_of_le_of_ne (Rat.not_lt.1 f) (Ne.symm g)
     grind
    rw [A86 n,Rat.neg_neg] at hK
    refine ⟨?_,?_⟩
    ·show (((bs [45]).size+(bs (H1 q)).size:Nat):Int)<=_
     rw [I7,I7];simp;omega
    ·show K (.string (bs [45]++bs (H1 q))) h
     rw [Jd];exact hK
  ·intro l
   rw [B2v l,Rat.neg_zero,B25] at hK
   exact ⟨_,rfl,P6 hK⟩
def Nn(gl:Gl h)(ta:Tx m a)(tb:Tx m b)(hm:2*m<=6400000000)(hK:K (I (B8e (rv a) (rv b))) h):aF prog Kk #[.string (bs a),.string (bs b)] h K:=by
 refine FCall.pure (A7p _ _ ?_)
 unfold A9n
 refine Ak ?_ ?_
 ·intro p q j n c d o i
  rw [j,n,D8,D8] at hK
  refine ⟨_,_,_,_,_,rfl,Br.of (fun _=>Ws _ _ ?_) (fun e=>by cases e)⟩
  unfold Sf
  have t:=Hi c (show ((q.den:Nat):Int).natAbs<1000000000 by simpa using i)
  have s:=Hi o (show ((p.den:Nat):Int).natAbs<1000000000 by simpa using d)
  rw [B7 (by omega) (by omega),B7 (by omega) (by omega)]
  exact B50 ⟨_,rfl,_,rfl,B4 _,hK⟩
 ·refine ⟨_,_,_,_,_,rfl,Br.of (fun e=>by cases e) (fun _=>?_)⟩
  refine K8 gl.tz ta.len ?_
  intro r c g l
  refine ⟨_,_,_,_,_,_,_,_,rfl,K8 (gl.tz.mono g) tb.len ?_⟩
  intro u d f k
  refine ⟨_,_,_,_,_,_,_,_,rfl,A0h (l.mono f) k ta.sz tb.sz hm ⟨_,rfl,B0 g f,hK⟩⟩
def A35(gl:Gl h)(ta:Tx m a)(tb:Tx m b)(hm:2*m+1<=40000000)(hK:K (.string (bs (H1 (rv a+rv b)))) h):aF prog A8v #[.string (bs a),.string (bs b)] h K:=by
 refine FCall.pure (C30 _ _ ?_)
 unfold C7l
 refine Ak ?_ ?_
 ·intro p q o u j g k i
  rw [o,u,D8,D8,Fl] at hK
  refine ⟨_,_,_,_,_,rfl,Br.of (fun _=>?_) (fun e=>by cases e)⟩
  have w:=Hi j (show ((q.den:Nat):Int).natAbs<1000000000 by simpa using i)
  have z:=Hi k (show ((p.den:Nat):Int).natAbs<1000000000 by simpa using g)
  have y:=Hi (show ((p.den:Nat):Int).natAbs<1000000000 by simpa using g) (show ((q.den:Nat):Int).natAbs<1000000000 by simpa using i)
  rw [B7 (n:=p.num*q.den) (by omega) (by omega),B7 (n:=q.num*p.den) (by omega) (by omega),B7 (n:=(p.den:Int)*q.den) (by omega) (by omega),B7 (by omega) (by omega)]
  exact T1 gl.p10 (cH (dF p) (dF q)) (by omega) (by omega) ⟨_,rfl,B4 _,hK⟩
 ·refine ⟨_,_,_,_,_,rfl,Br.of (fun e=>by cases e) (fun _=>?_)⟩
  refine K8 gl.tz ta.len ?_
  intro B j d r
  refine ⟨_,_,_,_,_,_,_,_,rfl,K8 (gl.tz.mono d) tb.len ?_⟩
  intro x g f t
  refine ⟨_,_,_,_,_,_,_,_,rfl,Yk (gl.tz.mono (B0 d f)) (r.mono f) t ta.sz tb.sz (by omega) ?_⟩
  intro A k s l
  have c:=B0 d (B0 f s)
  exact ⟨_,_,_,_,_,_,_,_,rfl,T8 (gl.p10.mono c) l (ta.sz.add tb.sz) (by omega) ⟨_,rfl,c,hK⟩⟩
def Tz(gl:Gl h)(ta:Tx m a)(tb:Tx m b)(hm:2*m+1<=40000000)(hK:K (.string (bs (H1 (rv a-rv b)))) h):aF prog A4c #[.string (bs a),.string (bs b)] h K:=by
 refine FCall.pure (C2v _ _ ?_)
 unfold C7g
 refine Ak ?_ ?_
 ·intro p q o w j g k i
  have t:p-q=bL (p.num*q.den-q.num*p.den) (p.den*q.den):=by
   rw [Rat.sub_eq_add_neg,Fl,Rat.neg_num,Rat.neg_den,Int.neg_mul,<- Int.sub_eq_add_neg]
  rw [o,w,D8,D8,t] at hK
  refine ⟨_,_,_,_,_,rfl,Br.of (fun _=>?_) (fun e=>by cases e)⟩
  have x:=Hi j (show ((q.den:Nat):Int).natAbs<1000000000 by simpa using i)
  have A:=Hi k (show ((p.den:Nat):Int).natAbs<1000000000 by simpa using g)
  have z:=Hi (show ((p.den:Nat):Int).natAbs<1000000000 by simpa using g) (show ((q.den:Nat):Int).natAbs<1000000000 by simpa using i)
  rw [B7 (n:=p.num*q.den) (by omega) (by omega),B7 (n:=q.num*p.den) (by omega) (by omega),B7 (n:=(p.den:Int)*q.den) (by omega) (by omega),B7 (by omega) (by omega)]
  exact T1 gl.p10 (cH (dF p) (dF q)) (by omega) (by omega) ⟨_,rfl,B4 _,hK⟩
 ·refine ⟨_,_,_,_,_,rfl,Br.of (fun e=>by cases e) (fun _=>?_)⟩
  refine K8 gl.tz ta.len ?_
  intro C j d r
  refine ⟨_,_,_,_,_,_,_,_,rfl,K8 (gl.tz.mono d) tb.len ?_⟩
  intro y g f u
  refine ⟨_,_,_,_,_,_,_,_,rfl,B06 (gl.tz.mono (B0 d f)) (r.mono f) u ta.sz tb.sz (by omega) ?_⟩
  intro B k s l
  have c:=B0 d (B0 f s)
  exact ⟨_,_,_,_,_,_,_,_,rfl,T8 (gl.p10.mono c) l (ta.sz.sub tb.sz) (by omega) ⟨_,rfl,c,hK⟩⟩
def B29(gl:Gl h)(ta:Tx m a)(tb:Tx m b)(hm:2*m<=40000000)(hK:K (.string (bs (H1 (rv a*rv b)))) h):aF prog B4b #[.string (bs a),.string (bs b)] h K:=by
 refine FCall.pure (C2x _ _ ?_)
 unfold C7i
 refine Ak ?_ ?_
 ·intro p q o u i j g l
  rw [o,u,D8,D8,Kg] at hK
  refine ⟨_,_,_,_,_,rfl,Br.of (fun _=>?_) (fun e=>by cases e)⟩
  have x:=Hi i g
  have y:=Hi (show ((p.den:Nat):Int).natAbs<1000000000 by simpa using j) (show ((q.den:Nat):Int).natAbs<1000000000 by simpa using l)
  rw [B7 (n:=p.num*q.num) (by omega) (by omega),B7 (n:=(p.den:Int)*q.den) (by omega) (by omega)]
  exact T1 gl.p10 (cH (dF p) (dF q)) (by omega) (by omega) ⟨_,rfl,B4 _,hK⟩
 ·refine ⟨_,_,_,_,_,rfl,Br.of (fun e=>by cases e) (fun _=>?_)⟩
  refine K8 gl.tz ta.len ?_
  intro w i f t
  refine ⟨_,_,_,_,_,_,_,_,rfl,K8 (gl.tz.mono f) tb.len ?_⟩
  intro z j d r
  refine ⟨_,_,_,_,_,_,_,_,rfl,Yi (gl.tz.mono (B0 f d)) (t.mono d) r ta.sz tb.sz (by omega) ?_⟩
  intro A g s k
  have c:=B0 f (B0 d s)
  exact ⟨_,_,_,_,_,_,_,_,rfl,T8 (gl.p10.mono c) k (ta.sz.mul tb.sz) (by omega) ⟨_,rfl,c,hK⟩⟩
def B2c(gl:Gl h)(ta:Tx m a)(tb:Tx m b)(hm1:1<=m)(hm:2*m<=40000000)(hK1:rv b≠0->K (.tuple #[.string (bs (H1 (rv a/rv b))),.bool true]) h)(hK0:rv b=0->K (.tuple #[.string (bs []),.bool false]) h):aF prog B4c #[.string (bs a),.string (bs b)] h K:=by
 refine FCall.pure (C2z _ _ ?_)
 unfold C7k
 have c:∀ k,k=h->aF prog N5 #[.string (bs b)] k (fun R w=>∃ (t350:Bool) (t351A:Option aN) (t351n:Nat) (t351c:Nat) (t352:Bool) (t353A:Option aN) (t353n:Nat) (t353c:Nat),R= .agg #[.bool t350,.slice t351A t351n t351c,.bool t352,.slice t353A t353n t353c]/\aF prog Om #[.agg #[.bool t350,.slice t351A t351n t351c,.bool t352,.slice t353A t353n t353c]] w (fun J f=>∃ (t37:Bool),J= .bool t37/\Br t37 (h.le f/\K (.tuple #[.string ({ data:=#[] }:ByteArray),.bool false]) h)
  (aF prog N5 #[.string (bs a)] f (fun M i=>∃ (t390:Bool) (t391A:Option aN) (t391n:Nat) (t391c:Nat) (t392:Bool) (t393A:Option aN) (t393n:Nat) (t393c:Nat),M= .agg #[.bool t390,.slice t391A t391n t391c,.bool t392,.slice t393A t393n t393c]/\Heap.le f i/\aF prog A8y #[.agg #[.bool t390,.slice t391A t391n t391c,.bool t392,.slice t393A t393n t393c],.agg #[.bool t350,.slice t351A t351n t351c,.bool t352,.slice t353A t353n t353c]] i (fun Q g=>∃ (t410:Bool) (t411A:Option aN) (t411n:Nat) (t411c:Nat) (t412:Bool) (t413A:Option aN) (t413n:Nat) (t413c:Nat),Q= .agg #[.bool t410,.slice t411A t411n t411c,.bool t412,.slice t413A t413n t413c]/\Heap.le i g/\aF prog W4 #[.agg #[.bool t410,.slice t411A t411n t411c,.bool t412,.slice t413A t413n t413c]] g (fun O l=>∃ (t42:ByteArray),O= .string t42/\Heap.le g l/\(h.le l/\K (.tuple #[.string t42,.bool true]) h))))))):=by
  rintro k rfl
  refine K8 gl.tz tb.len ?_
  intro X z s y
  refine ⟨_,_,_,_,_,_,_,_,rfl,A3i y ⟨_,rfl,B6 (fun e=>⟨s,hK0 e⟩) (fun e=>?_)⟩⟩
  refine K8 (gl.tz.mono s) ta.len ?_
  intro T C t N
  refine ⟨_,_,_,_,_,_,_,_,rfl,t,B08 (gl.tz.mono (B0 s t)) N (y.mono t) ta.sz tb.sz hm1 (by omega) ?_⟩
  intro W B A F
  have o:=B0 s (B0 t A)
  exact ⟨_,_,_,_,_,_,_,_,rfl,A,T8 (gl.p10.mono o) F (ta.sz.div tb.sz hm1) (by omega) ⟨_,rfl,B4 _,o,hK1 e⟩⟩
 refine Ak ?_ ?_
 ·intro p q H D z C B G
  refine ⟨_,_,_,_,_,rfl,fun L k=>L=[.bool (decide (q.num≠0))]/\k=h,Br.of (fun _=>⟨?_,rfl⟩) (fun e=>by cases e),?_⟩
  ·by_cases r:q.num=0<;>simp [r,bne]
  rintro j d ⟨u,rfl⟩
  obtain rfl:j=decide (q.num≠0):=by simpa using u
  refine B6 (fun r=>?_) (fun r=>c d rfl)
  have x:rv b≠0:=by rw [D,D8];exact fun e=>r (Rat.num_eq_zero.2 e)
  have E:=hK1 x
  rw [H,D,D8,D8,Yx] at E
  have S:=Hi z (show ((q.den:Nat):Int).natAbs<1000000000 by simpa using G)
  have V:=Hi (show ((p.den:Nat):Int).natAbs<1000000000 by simpa using C) B
  rw [B7 (n:=p.num*q.den) (by omega) (by omega),B7 (n:=(p.den:Int)*q.num) (by omega) (by omega)]
  exact T1 gl.p10 (cH (dF p) r) (by omega) (by omega) ⟨_,rfl,B4 _,E⟩
 ·refine ⟨_,_,_,_,_,rfl,fun L k=>L=[.bool false]/\k=h,Br.of (fun e=>by cases e) (fun _=>⟨rfl,rfl⟩),?_⟩
  rintro j d ⟨u,rfl⟩
  obtain rfl:j=false:=by simpa using u
  exact Br.of (fun e=>by cases e) (fun _=>c d rfl)
def A62(gl:Gl h)(ta:Tx m a)(hm:m+1<=40000000)(hK:K (.string (bs (Hs (rv a).floor))) h):aF prog A1c #[.string (bs a)] h K:=by
 refine FCall.pure (B5r _ ?_)
 unfold C0j
 refine K8 gl.tz ta.len ?_
 intro f g c d
 refine ⟨_,_,_,_,_,_,_,_,rfl,Ro d ta.sz (by omega) ?_⟩
 intro i A2 j c2 k b e
 exact ⟨_,_,_,_,rfl,Hu (m:=m) (gl.p10.mono (B0 c b)) e (Ti ta.sz) (by omega) ⟨_,rfl,B0 c b,hK⟩⟩
def B01(gl:Gl h)(ta:Tx m a)(hm:m+1<=40000000)(hK:K (.string (bs (Hs (rv a).ceil))) h):aF prog A6v #[.string (bs a)] h K:=by
 refine FCall.pure (B8w _ ?_)
 unfold C52
 refine K8 gl.tz ta.len ?_
 intro f g c d
 refine ⟨_,_,_,_,_,_,_,_,rfl,B09 d ta.sz (by omega) ?_⟩
 intro i A2 j c2 k b e
 refine ⟨_,_,_,_,rfl,Hu (m:=m) (gl.p10.mono (B0 c b)) e ?_ (by omega) ⟨_,rfl,B0 c b,hK⟩⟩
 rw [dE]
 exact (Ti ta.sz.neg).neg
end
def C80(h:aV)(r:Value)(h':aV):Prop:=r= .bool true/\h.le h'
end Go.Proofs.YtmbfcbbkbefgfaaGreatDoor
namespace Go.Proofs.YtmbfcbbkbefgfaaGreatDoor
set_option maxRecDepth 20000
open Go Go.RowKit
def memOf(W:World):aV:=fun b=>W.heap[b]?
def frame_of{P:Program}{f:FuncId}{args:Array Value}{W:World}(x:aF P f args (memOf W) (C80 (memOf W))):Calls P f args W fun e w'=>e= .returned (.bool true)/\Below W.heap.size W w':=by
 refine (x W (fun b o e=>e)).mono ?_
 rintro e W' ⟨r,l,j,⟨i,c⟩,a⟩
 subst i
 refine ⟨j,a.os,a.tape,a.output,a.size,fun k g=>?_⟩
 have d:memOf W k=some W.heap[k]:=Array.getElem?_eq_getElem g
 have:=a.sim k _ (c k _ d)
 rw [this];exact d.symm
def Qk{W:World}{a:aN}{v:Value}(e:W.cell? a=some v):(memOf W).cell? a=some v:=by
 unfold World.cell? at e
 unfold Heap.cell? memOf
 exact e
def row_of{W:World}{a:Option aN}{len cap:Nat}{zs:List Int}(w:(a=none/\len=0/\cap=0/\zs=[])\/
 ∃ x,a=some x/\len<=cap/\cap<=maxLen/\zs.length=cap/\(∀ i,i<zs.length->W.cell? (x.add i)=some (.int .i64 (zs.getD i 0)))/\∀ n∈zs,(Lit.int .i64 n).wf=true):∃ xs:List Int,len=xs.length/\len<=cap/\SlI .i64 (memOf W) a xs/\∀ n∈xs,(Lit.int .i64 n).wf=true:=by
 rcases w with ⟨rfl,rfl,rfl,rfl⟩|⟨x,rfl,f,j,k,d,g⟩
 ·exact ⟨[],rfl,bB _,SlI.nil,by simp⟩
 ·refine ⟨zs.take len,by simp;omega,f,.inr ⟨x,rfl,fun i v b=>?_⟩,fun n e=>g n (cL e)⟩
  rw [List.getElem?_map] at b
  cases hz:(zs.take len)[i]? with
  | none=>rw [hz] at b;cases b
  | some n=>
   rw [hz] at b
   cases b
   rw [List.getElem?_take] at hz
   split at hz
   ·have c:i<zs.length:=by
     by_cases c:i<zs.length
     ·exact c
     ·rw [List.getElem?_eq_none (by omega)] at hz;cases hz
    have:=Qk (d i c)
    rw [this]
    simp only [List.getD,hz,Option.getD_some]
   ·cases hz
def A8q{P:Program}{W:World}{x:String × DataW Unit}{rest:List (String × DataW Unit)}(h:laidMet P (x::rest) W):laidMet P rest W:=by
 obtain ⟨n,d⟩:=x
 obtain ⟨l,⟨g,t,k,c,p,q,o,r,s,m,j,rfl⟩,i,e⟩:=h
 exact ⟨q,j,(List.nodup_append.1 i).2.1,fun b a f=>e b a (List.mem_append_right _ f)⟩
def C66:List Int:=[0,1,28,2,29,14,24,3,30,22,20,15,25,17,4,8,31,27,13,23,21,19,16,7,26,12,18,6,11,5,10,9]
def B79:List Int:=[0,1,56,2,57,49,28,3,61,58,42,50,38,29,17,4,62,47,59,36,45,43,51,22,53,39,33,30,24,18,12,5,63,55,48,27,60,41,37,16,46,35,44,21,52,32,23,11,54,26,40,15,34,20,31,10,25,14,19,9,13,8,7,6]
def C1a:List Int:=[1,10,100,1000,10000,100000,1000000,10000000,100000000,1000000000,10000000000,100000000000,1000000000000,10000000000000,100000000000000,1000000000000000,10000000000000000,100000000000000000,1000000000000000000,10000000000000000000]
def C01:prog.globalNamed "math/bits.deBruijn64tab" = some 0:=by kernel_rfl
def C02:prog.globalNamed "internal/strconv.uint64pow10" = some 3:=by kernel_rfl
def tabs_gl{W:World}(h:laidMet prog [("math/bits.deBruijn32tab",Rows.laid_math_bits_deBruijn32tab),("math/bits.deBruijn64tab",Rows.laid_math_bits_deBruijn64tab),("internal/strconv.uint64pow10",Rows.laid_internal_strconv_uint64pow10)] W):Gl (memOf W):=by
 have i:=A8q h
 have j:=A8q i
 have f:Lib.TabIs prog W "math/bits.deBruijn64tab" .u8 B79:=Lib.tabIs_of_head (rest:=[("internal/strconv.uint64pow10",Rows.laid_internal_strconv_uint64pow10)]) C01 (by kernel_rfl) underlying354 underlying5 (by kernel_rfl) (by kernel_rfl) i
 have e:Lib.TabIs prog W "internal/strconv.uint64pow10" .u64 C1a:=Lib.tabIs_of_head (rest:=[]) C02 (by kernel_rfl) underlying358 underlying270 (by kernel_rfl) (by kernel_rfl) j
 have d:∀ k,k<64->A2v k<B79.length/\B79.getD (A2v k) 0=(k:Int):=by decide +kernel
 have g:∀ k,k<20->C1a.getD k 0=((10^k:Nat):Int):=by decide +kernel
 refine ⟨fun k c=>?_,fun k c=>?_⟩
 ·obtain ⟨a,b⟩:=d k c
  have:=Qk (f.cell C01 (A2v k) a)
  rw [E5,bU,dM,this,b]
 ·have:=Qk (e.cell C02 k (by show k<20;exact c))
  rw [E5,bU,dM,this,g k c]
def B3z(zs:List Int)(k:IntKind):Obj->Obj
 | .cells _ t frozen=>.cells (zs.map (bW k)).toArray t frozen
 | o=>o
def layTabs(a:Array Obj):Array Obj:=((a.modify 4 (B3z C66 .u8)).modify 0 (B3z B79 .u8)).modify 3 (B3z C1a .u64)
