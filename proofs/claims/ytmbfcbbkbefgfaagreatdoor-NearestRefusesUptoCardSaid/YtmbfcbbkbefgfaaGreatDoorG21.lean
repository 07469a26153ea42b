/- A part. -/
import Derived.Test.YtmbfcbbkbefgfaaGreatDoorG20
import Derived.Test.YtmbfcbbkbefgfaaGreatDoorG09
import Derived.Test.YtmbfcbbkbefgfaaGreatDoorRows
import Derived.Lib.LaidTab
open Go.Proofs.Tryz
set_option linter.all false
open _root_.Array renaming replicate->cI
open Bool renaming eq_iff_iff->bJ
open Int renaming natAbs_natCast->aC,toNat_natCast->aG,sign_eq_one_of_pos->aJ,natCast_mul->aP,gcd->aS,mul_le_mul_of_nonneg_left->bH,natCast_pow->bI,pow_succ->bK,sign_eq_neg_one_of_neg->bN,le_of_lt->bZ,mul_ne_zero->cH,ofNat_tdiv->cL,mul_le_mul_of_nonneg_right->cW,pow_pos->cY,tdiv_eq_ediv_of_dvd->dJ,gcd_natCast_natCast->dK,mul_comm->dO
open List renaming replicate->aE,getElem?_eq_getElem->aH,getElem?_cons_zero->aI,length_append->aL,append_assoc->aR,getElem?_cons_succ->aT,exists_cons_of_ne_nil->aY,take_of_length_le->bC,takeWhile_append_dropWhile->bD,length_take->bF,eq_nil_of_length_eq_zero->bG,drop_zero->bM,length_drop->bX,length_map->cF,head?_cons->cG,take_append_drop->cJ,length_singleton->cK,take_succ_eq_append_getElem->cQ,length_cons->cT,getElem_mem->cU,getElem_map->cV,map_append->dA,append_nil->dB,getLast?_singleton->dH,append_cancel_left->dI,takeWhile_sublist->dM,drop_of_length_le->dN
open List.cons renaming injEq->aD
open Nat renaming pow_le_pow_right->aM,gcd->aQ,lt_of_lt_of_le->aU,div_le_self->aZ,le_refl->bB,mul_one->bU,gcd_dvd_right->bV,sub_zero->bY,min_eq_left->cD,pow_le_pow_left->cM,add_sub_cancel->cN,pow_succ->cO,le_trans->cP,div_one->cX,le_of_dvd->dF,gcd_pos_of_pos_right->dG,zero_add->dL
open Option.some renaming injEq->aW
open Rat renaming lt_iff->aX,divInt->bL,num_eq_zero->cC,intCast_add->cZ,add->dC,ceil_eq_neg_floor_neg->dD
open _root_.Go.Value renaming int->bW
open _root_.Go.Value.int renaming injEq->aK
open _root_.Go.Value.slice renaming injEq->aN
open _root_.Go renaming Addr->aO,TypeId->bO
open _root_.Go.Proofs.YtmbfcbbkbefgfaaGreatDoor renaming FCall->aF,Heap->aV,Priv->cR,den_ne->dE
namespace Go.Proofs.YtmbfcbbkbefgfaaGreatDoor
set_option maxRecDepth 20000
open Go
def nv:List Nat->Nat
 | []=>0
 | c::r=>c+10^19*nv r
def B32(ns:List Nat)(c:Nat):((nv (ns++[c]):Nat):Int)=(nv ns:Int)+cB^ns.length*(c:Int):=by
 induction ns with
 | nil=>simp [nv]
 | cons d r ih=>
  have e:((10^19:Nat):Int)=cB:=by decide
  simp only [List.cons_append,nv,cT,bK,Int.natCast_add,aP,ih,e]
  grind
def C58{ns:List Nat}(h:∀ c∈ns,c<10^19):nv ns<10^(19*ns.length):=by
 induction ns with
 | nil=>simp [nv]
 | cons d r ih=>
  have b:=h d (by simp)
  have e:=ih fun c a=>h c (by simp [a])
  simp only [nv,cT]
  rw [show 19*(r.length+1)=19+19*r.length by omega,Nat.pow_add]
  have:=Nat.mul_le_mul_left (10^19) (show nv r+1<=10^(19*r.length) by omega)
  rw [Nat.mul_add] at this;omega
def C57{ns:List Nat}(hne:ns≠[])(h:ns.getLast? ≠ some 0):nv ns≠0:=by
 induction ns with
 | nil=>exact absurd rfl hne
 | cons d r ih=>
  cases r with
  | nil=>simp at h;simp [nv];exact h
  | cons e s=>
   have:=ih (by simp) (by simpa [List.getLast?_cons_cons] using h)
   simp only [nv] at this ⊢
   have a:0<10^19*(e+10^19*nv s):=Nat.mul_pos (by decide) (by omega)
   omega
def B78{c:Nat}:aE (19-(N8 c).length) 48++N8 c=pad 19 c:=by
 unfold N8 pad
 split
 ·rename_i h;subst h;rw [I8];rfl
 ·rfl
def B2w{c w:Nat}(h:c≠0):aE (w-(N8 c).length) 48++N8 c=pad w c:=by
 unfold N8 pad;rw [iN h]
def B03{w n k:Nat}(h:n<10^k):(pad w n).length<=w+k:=by
 unfold pad
 have:=Q9.2 h
 rw [aL,List.length_replicate];omega
def B1b(W:Nat)(ns:List Nat)(k:Nat):List UInt8:=if k<ns.length then pad (W-19*k) (nv (ns.drop k)) else []
def B6j{W:Nat}{ns:List Nat}(h:∀ c∈ns,c<10^19)(k:Nat):(B1b W ns k).length<=W+19*ns.length:=by
 unfold B1b
 split
 ·have:=B03 (w:=W-19*k) (C58 (ns:=ns.drop k) fun c a=>h c (List.mem_of_mem_drop a))
  rw [bX] at this;omega
 ·simp
def B1v{W:Nat}{ns:List Nat}(hb:∀ c∈ns,c<10^19)(ht:ns.getLast? ≠ some 0){j:Nat}(hj:j<ns.length):B1b W ns j=B1b W ns (j+1)++(aE ((if j+1=ns.length then max (N8 ns[j]).length (W-19*j) else 19)-(N8 ns[j]).length) 48++N8 ns[j]):=by
 have e:ns.drop j=ns[j]::ns.drop (j+1):=List.drop_eq_getElem_cons hj
 unfold B1b
 rw [iP hj,e]
 by_cases h:j+1=ns.length
 ·rw [iN (by omega),iP h,List.nil_append,dN (by omega)]
  have b:ns[j]≠0:=by
   intro d
   apply ht
   rw [List.getLast?_eq_getElem?,<- h,cN,aH hj,d]
  rw [show max (N8 ns[j]).length (W-19*j)-(N8 ns[j]).length=(W-19*j)-(N8 ns[j]).length by omega,B2w b]
  simp [nv]
 ·rw [iP (by omega),iN h,B78]
  have a:nv (ns.drop (j+1))≠0:=by
   apply C57
   ·intro f;have:=congrArg List.length f;rw [bX] at this;simp at this;omega
   ·rw [List.getLast?_drop,iN (by omega)];exact ht
  have:=A3k (w:=W-19*j) (h:=nv (ns.drop (j+1))) (l:=ns[j]) (k:=19) (hb _ (cU hj)) (.inl a)
  rw [Nat.sub_sub] at this
  rw [show 19*(j+1)=19*j+19 by omega,<- this]
  congr 1
  simp only [nv];rw [Nat.mul_comm];omega
def Priv.clear{h g:aV}{e:bO}{A:Option aO}{n c:Nat}{xs:List Value}(p:cR h g e 1 A n c xs):cR h g e 1 A 0 c []:=by
 obtain ⟨m,o,d⟩:=p
 refine ⟨by simp,by omega,?_⟩
 rcases d with d|⟨b,a,f,j,i,k,l⟩
 ·exact .inl d
 ·exact .inr ⟨b,a,f,j,i,k,by simp⟩
def nz(ns:List Nat):List Int:=ns.map fun (x:Nat)=>(x:Int)
def Bx(g:aV)(eT:bO)(A:Option aO)(n c:Nat)(l:List UInt8)(p:aO)(CA:Option aO)(ns:List Nat)(bl t:List UInt8)(tA:Option aO)(tn tc:Nat)(hp:aV):Prop:=
 ∃ e2 gA gB,Ext g eT A n c l t tA tn tc e2 gA hp/\cR gA gB B1q 1 (some p) bl.length 20 (yv bl)/\g.le gB/\SlI .u64 gB CA (nz ns)
section
variable {h g:aV} {K:VP} {A CA:Option aO} {n c:Nat} {eT:bO} {l:List UInt8} {p:aO} {ns:List Nat}
def A7s{bl t s:List UInt8}{tA tA':Option aO}{tn tc tn' tc':Nat}{e2 e3:bO}{gA gB g' hp hp':aV}(x:Ext g eT A n c l t tA tn tc e2 gA hp)(q:cR gA gB B1q 1 (some p) bl.length 20 (yv bl))(lg:g.le gB)(sc:SlI .u64 gB CA (nz ns))(y:Ext gA e2 tA tn tc (l++t) s tA' tn' tc' e3 g' hp'):Bx g eT A n c l p CA ns bl (t++s) tA' tn' tc' hp':=by
 obtain ⟨a,b,d⟩:=q.after y.le
 exact ⟨e3,g',a,x.trans y,d,Heap.le_trans lg b,sc.mono b⟩
def B7x{Invv2:LP}{muv2:LN}{tA:Option aO}{tn tc q:Nat}{first:Bool}{i1 size:Int}{bl t:List UInt8}{hp9 hp11:aV}(x:Bx g eT A n c l p CA ns bl t tA tn tc hp11)(hq:B4 (size-((bl.length:Nat):Int))=(q:Int))(hb:n+t.length+q+bl.length<=100000000000)
 (hK:∀ tA' tn' tc' hp',Bx g eT A n c l p CA ns bl (t++(aE q 48++bl)) tA' tn' tc' hp'->Invv2 [.slice tA' tn' tc',.bool false,I (B4 (i1-1))] hp'/\muv2 [.slice tA' tn' tc',.bool false,I (B4 (i1-1))] hp'<muv2 [.slice tA tn tc,.bool first,I i1] hp9):
 Ba prog Invv2 muv2 tA tn tc first i1 (some p) bl.length 20 size hp9 hp11:=by
 unfold Ba
 rw [hq]
 refine ⟨fun s m=>∃ (k:Nat) (tA:Option aO) (tn tc:Nat),s=[.slice tA tn tc,I k]/\k<=q/\Bx g eT A n c l p CA ns bl (t++aE k 48) tA tn tc m,fun s _=>q-(iAt s 1).toNat,⟨0,tA,tn,tc,rfl,by omega,by simpa using x⟩,?_⟩
 rintro Q L C M w ⟨k,N,B,T,a,hk,e2,Z,X,ex,f,j,o⟩
 simp only [aD,aN,aK,and_true,true_and] at a
 obtain ⟨⟨rfl,rfl,rfl⟩,rfl⟩:=a
 have d:=ex.len
 rw [aL,List.length_replicate] at d
 refine B6 (fun O=>?_) (fun O=>?_)
 ·refine Fx (ch:=48) rfl ex.priv (by omega) ?_
  intro A' W S e3 D u y
  rw [B7 (by omega) (by omega)]
  refine ⟨⟨k+1,_,_,_,rfl,by omega,?_⟩,by simp only [iAt,aI,aT];omega⟩
  have:=A7s ex f j o y
  rwa [aR,<- List.replicate_succ'] at this
 ·obtain rfl:k=q:=by omega
  refine ⟨fun s m=>∃ (tA:Option aO) (tn tc:Nat),s=[.slice tA tn tc]/\Bx g eT A n c l p CA ns bl (t++(aE k 48++bl)) tA tn tc m,?_,?_⟩
  ·refine Wc Eg ex.priv (Hr bl) (SlV.mono ex.priv.le f.slV) (A0n _) (by omega) (by omega) ?_ ?_
   ·intro V u b
    rw [<- T9] at b
    refine ⟨_,_,_,rfl,_,_,_,rfl,?_⟩
    have:=A7s ex f j o (s:=bl) ⟨B3 _,b,rfl,fun _=>⟨rfl,rfl,rfl⟩,id⟩
    rwa [aR] at this
   ·intro V A' S u D i b
    rw [<- T9] at b
    refine ⟨_,_,_,rfl,_,_,_,rfl,?_⟩
    have:=A7s ex f j o (s:=bl) ⟨i,b,rfl,fun e=>by omega,fun _=>rfl⟩
    rwa [aR] at this
  ·rintro J G R r ⟨H,E,F,a,z⟩
   simp only [aD,aN,and_true] at a
   obtain ⟨rfl,rfl,rfl⟩:=a
   exact hK _ _ _ _ z
def B7v{W tn tc:Nat}{tA:Option aO}{t:List UInt8}{e2:bO}{gA hp9:aV}(x:Ext g eT A n c l t tA tn tc e2 gA hp9)(hW:W<=10000000000)(hb:tn<=10000000000)(hK:∀ A' n' c' e3 g' h',Ext g eT A n c l (t++aE W 48) A' n' c' e3 g' h'->K (.slice A' n' c') h'):Az prog (W:Int) K tA tn tc hp9:=by
 unfold Az
 refine ⟨fun s w=>∃ (k:Nat) (tA:Option aO) (tn' tc:Nat) (e3:bO) (g':aV),s=[.slice tA tn' tc,I k]/\k<=W/\tn'=tn+k/\Ext g eT A n c l (t++aE k 48) tA tn' tc e3 g' w,fun s _=>W-(iAt s 1).toNat,⟨0,tA,tn,tc,e2,gA,rfl,by omega,rfl,by simpa using x⟩,?_⟩
 rintro u j f i a ⟨k,o,e,m,e3,g',b,z,p,ex⟩
 simp only [aD,aN,aK,and_true,true_and] at b
 obtain ⟨⟨rfl,rfl,rfl⟩,rfl⟩:=b
 refine B6 (fun q=>?_) (fun q=>?_)
 ·refine Fx (ch:=48) rfl ex.priv (by omega) ?_
  intro A' n' c' r d h' y
  rw [B7 (by omega) (by omega)]
  refine ⟨⟨k+1,_,_,_,r,d,rfl,by omega,?_,?_⟩,by simp only [iAt,aI,aT];omega⟩
  ·have:=y.len;simp at this;omega
  ·have:=ex.trans y
   rwa [aR,<- List.replicate_succ'] at this
 ·obtain rfl:k=W:=by omega
  exact hK _ _ _ _ _ _ ex
def B7w{W cn:Nat}{tA:Option aO}{tn tc:Nat}{hp8:aV}{b:Nat}(gp:Gp g)(hp:p=⟨b,0,none⟩)(x:Bx g eT A n c l p CA ns [] [] tA tn tc hp8)(hcn:cn=ns.length)(hb:∀ c∈ns,c<10^19)(ht:ns.getLast? ≠ some 0)(hW:W<=1000000000)(hn:n<=1000000000)(hnl:ns.length<=1000000000)
 (hK:∀ A' n' c' e3 g' h',Ext g eT A n c l (pad W (nv ns)) A' n' c' e3 g' h'->K (.slice A' n' c') h'):Bb prog tA tn tc (W:Int) K CA cn p hp8:=by
 subst hcn
 have i:J9 (some p) 20 0 1=some p:=by rw [hp];rfl
 unfold Bb
 refine ⟨fun s hp=>∃ (k:Nat) (tA:Option aO) (tn tc:Nat) (Q:List UInt8),s=[.slice tA tn tc,.bool (decide (k=ns.length)),I ((k:Int)-1)]/\k<=ns.length/\Bx g eT A n c l p CA ns Q (B1b W ns k) tA tn tc hp,fun s _=>(iAt s 2+1).toNat,⟨ns.length,tA,tn,tc,[],by rw [B7 (by omega) (by omega)];simp,bB _,by unfold B1b;rw [iN (by omega)];exact x⟩,?_⟩
 rintro D B m first i1 ae ⟨k,ac,S,ad,Q,F,hk,N,gA,gB,ex,E,t,R⟩
 simp only [aD,aN,aK,Value.bool.injEq,and_true,true_and] at F
 obtain ⟨⟨rfl,rfl,rfl⟩,rfl,rfl⟩:=F
 have H:=ex.len
 have af:=B6j (W:=W) hb k
 refine B6 (fun h1=>?_) (fun h1=>?_)
 ·obtain ⟨j,rfl⟩:∃ j,k=j+1:=⟨k-1,by omega⟩
  have e:((j+1:Nat):Int)-1=(j:Int):=by omega
  rw [e]
  have z:j<ns.length:=by omega
  refine ⟨⟨by omega,by omega⟩,?_⟩
  refine (R.mono (Heap.le_trans E.le ex.priv.le)).load (by simp [nz]) (by omega) (by simp;omega) ?_
  have X:(nz ns).getD (j:Int).toNat 0=((ns[j]:Nat):Int):=by
   rw [aG];simp [nz,List.getD,z]
  rw [X,i,show ((0:Int)).toNat-0=0 from rfl,show 20-0=20 from rfl]
  have a:=hb ns[j] (cU z)
  have aa:(N8 ns[j]).length<=20:=(Ov (by decide)).2 (aU a (by decide))
  refine ex.priv.call ?_
  refine Hc (l:=[]) (gp.mono (Heap.le_trans t E.le)) E.clear (aU a (by decide)) (by omega) ?_
  intro A' n' c' e3 g' h0 y h' Z
  obtain ⟨rfl,rfl,rfl⟩:=y.fit (by omega)
  have J:=y.len
  rw [dL] at J
  subst J
  refine ⟨_,_,_,rfl,?_⟩
  have T:Bx g eT A n c l p CA ns (N8 ns[j]) (B1b W ns (j+1)) D B m h':=
   ⟨N,h0,g',⟨Heap.le_trans t (Heap.le_trans y.le y.priv.le),Z,ex.len,ex.fit,ex.tag⟩,by simpa using y.priv,Heap.le_trans t y.le,R.mono y.le⟩
  refine ⟨fun s hp=>s=[I (((if j+1=ns.length then max (N8 ns[j]).length (W-19*j) else 19):Nat):Int)]/\hp=h',B6 (fun d=>⟨?_,rfl⟩) (fun d=>⟨by rw [iN d];rfl,rfl⟩),?_⟩
  ·rw [iP d,B7 (n:=19*(j:Int)) (by omega) (by omega),B7 (by omega) (by omega)]
   simp only [aD,aK,and_true,true_and]
   by_cases L:(W:Int)-19*(j:Int)>(((N8 ns[j]).length:Nat):Int)
   ·rw [iP L];omega
   ·rw [iN L];omega
  ·rintro f G ⟨C,rfl⟩
   obtain rfl:f=(((if j+1=ns.length then max (N8 ns[j]).length (W-19*j) else 19):Nat):Int):=by simpa using C
   have M:(N8 ns[j]).length<=19:=(Ov (by decide)).2 a
   generalize hsz:(if j+1=ns.length then max (N8 ns[j]).length (W-19*j) else 19)=sz at *
   have O:(N8 ns[j]).length<=sz/\sz<=W+20:=by
    rw [<- hsz];split<;>omega
   refine B7x (q:=sz-(N8 ns[j]).length) T (by rw [B7 (by omega) (by omega)];omega) (by have:=ex.len;omega) ?_
   intro r w u V x3
   rw [B7 (by omega) (by omega)]
   refine ⟨⟨j,r,w,u,N8 ns[j],?_,by omega,?_⟩,by simp only [iAt,aI,aT];omega⟩
   ·rw [show decide (j=ns.length)=false by simp;omega]
   ·rw [B1v hb ht z,hsz];exact x3
 ·obtain rfl:k=0:=by omega
  refine B6 (fun d=>?_) (fun d=>?_)
  ·have o:ns=[]:=bG d.symm
   subst o
   refine B7v ex (by omega) (by omega) ?_
   intro A' n' c' e3 g' h' y
   refine hK _ _ _ e3 g' _ ?_
   have:B1b W [] 0++aE W 48=pad W (nv []):=by simp [B1b,nv,pad,I8]
   rwa [this] at y
  ·refine hK _ _ _ N gA _ ?_
   ·have:B1b W ns 0=pad W (nv ns):=by unfold B1b;rw [iP (by omega)];simp
    rw [<- this];exact ex
end
def B81:(prog.info? B1q).map (fun i=>i.zero)=some (some (.agg (cI 20 (.int .u8 0)))):=by kernel_rfl
def C13(ns:List Nat)(c:Nat):nz (ns++[c])=nz ns++[(c:Int)]:=by simp [nz]
section
variable {h g:aV} {K:VP} {A XA:Option aO} {n c:Nat} {eT:bO} {l:List UInt8}
def Fc{xn xc v W:Nat}(gp:Gp g)(p:cR h g eT 1 A n c (yv l))(M:Mw g XA xn (v:Int))(hx:xn<=10000000)(hW:W<=1000000000)(hn:n<=1000000000)
 (hK:∀ A' n' c' e3 g' h',Ext g eT A n c l (pad W v) A' n' c' e3 g' h'->K (.slice A' n' c') h'):aF prog U8 #[.slice A n c,.slice XA xn xc,I (W:Int)] h K:=by
 obtain ⟨xs,L,sx,dx,nx,R⟩:=M
 refine Td _ _ _ _ _ _ _ ?_
 unfold Pj
 refine p.call ?_
 refine Ez sx L (by omega) ?_
 intro WA T h0 g0 l0 pw h1 S
 obtain ⟨C,al,aa⟩:=S.swap pw
 refine ⟨_,_,_,rfl,?_⟩
 unfold Jf
 have aq:(v:Int)<2^(64*xn):=by
  have:=L5 (B:=b64) (by decide) dx
  rw [R,<- L,Ky] at this;exact this
 refine ⟨fun s hp=>∃ (a:List Int) (ns:List Nat) (WA CA:Option aO) (wn T cn cc:Nat) (C g2 g3:aV),s=[.slice WA wn T,.slice CA cn cc]/\Pw hp C WA wn T a/\Pw C g2 CA cn cc (nz ns)/\cR g2 g3 eT 1 A n c (yv l)/\g.le g3/\wn=a.length/\cn=ns.length/\wn<=xn/\Dig b64 a/\Norm a/\(∀ c∈ns,c<10^19)/\(v:Int)=val b64 a*cB^ns.length+(nv ns:Int)/\(a=[]->ns.getLast? ≠ some 0),fun s hp=>match s with|[.slice A n _,_]=>B37 b64 hp A n|_=>0,⟨xs,[],WA,none,xs.length,T,0,0,C,C,g0,rfl,al,Priv.nil _ _ _ _,aa,l0,rfl,rfl,by omega,dx,nx,by simp,by simp [nv,R],by simp⟩,?_⟩
 rintro WA1 F Z CA1 an au G ⟨a,ns,WA2,CA2,az,a0,ay,ax,C,g2,g3,hs,pw,pc,S,lg,w,ap,av,X,nu,hb,hv,t⟩
 simp only [aD,aN,and_true] at hs
 obtain ⟨⟨rfl,rfl,rfl⟩,rfl,rfl,rfl⟩:=hs
 have ar:=C6 (B:=b64) (by decide) X
 have Mu:Mw G WA1 F (val b64 a):=⟨a,w,pw.slV,X,nu,rfl⟩
 refine B6 (fun h2=>?_) (fun h2=>?_)
 ·have ao:a≠[]:=by rintro rfl;simp at w;omega
  have E:0<val b64 a:=by
   have:=Mu.len_zero (by decide)
   omega
  have u:ns.length<=64*xn:=by
   by_cases V:ns.length<=64*xn
   ·exact V
   ·exfalso
    have h3:(2:Int)^(64*xn)<=2^ns.length:=C8 (by decide) (by omega)
    have h4:(2:Int)^ns.length<=cB^ns.length:=by
     have:∀ k:Nat,(2:Int)^k<=cB^k:=by
      intro k
      induction k with
      | zero=>simp
      | succ k ih=>
       rw [bK,bK]
       exact Int.mul_le_mul ih (by decide) (by decide) (bZ (cY (by decide)))
     exact this _
    have h5:1*cB^ns.length<=val b64 a*cB^ns.length:=cW E (bZ (cY (by decide)))
    omega
  refine C3y pw ao w X (by omega) ?_
  intro z m r a1 ad hm aw nw dw d hr
  obtain ⟨q,aj,am⟩:=ad.swap pc
  refine Ds Q1 aj rfl rfl (by omega) (by omega) ?_
  intro CA' ah h' g' ag i
  obtain ⟨y,l2,j⟩:=am.after ag
  obtain ⟨g4,Q,af⟩:=i.swap j
  obtain ⟨g5,l5,ac⟩:=S.after l2
  obtain ⟨c0,e⟩:∃ c0:Nat,r=(c0:Int):=⟨r.toNat,by omega⟩
  have D:c0<10^19:=by
   have O:r<10000000000000000000:=hr.2
   show c0<10000000000000000000
   omega
  have ak:=C6 (B:=b64) (by decide) dw
  refine ⟨⟨z.take m,ns++[c0],WA1,CA',m,Z,an+1,ah,g4,y,g5,rfl,Q,?_,ac,Heap.le_trans lg l5,hm,by simp;omega,by omega,dw,nw,?_,?_,?_⟩,?_⟩
  ·have h9:=af
   rw [<- List.map_singleton (f:=bW .u64),<- dA,e,<- C13] at h9
   exact h9
  ·intro c V
   rcases List.mem_append.1 V with O|O
   ·exact hb c O
   ·rw [List.mem_singleton.1 O];exact D
  ·rw [B32,hv,d,aL,cK,bK,e];grind
  ·intro he
   rw [List.getLast?_append]
   simp only [dH,Option.some_or,ne_eq,aW]
   intro e0
   rw [he] at d
   simp [val] at d
   omega
  ·show B37 b64 h' WA1 m<B37 b64 G WA1 F
   have Mw2:Mw h' WA1 m (val b64 (z.take m)):=⟨z.take m,hm,Q.slV,dw,nw,rfl⟩
   rw [Am Mw2,Am Mu]
   have O:1*val b64 (z.take m)<=cB*val b64 (z.take m):=cW (by decide) ak
   have h7:val b64 a=10000000000000000000*val b64 (z.take m)+r:=by rw [d,dO]
   omega
 ·have N:a=[]:=bG (by omega)
  subst N
  obtain ⟨y,ae,i⟩:=pc.swap S
  obtain ⟨q,H,j⟩:=pw.swap ae
  have ai:v=nv ns:=by
   simp [val] at hv;omega
  have u:ns.length<=1000000000:=by
   by_cases e:ns=[]
   ·subst e;simp
   ·have h7:=t rfl
    obtain ⟨ms,c0,rfl⟩:∃ ms c0,ns=ms++[c0]:=⟨ns.dropLast,ns.getLast e,(List.dropLast_concat_getLast e).symm⟩
    rw [List.getLast?_append] at h7
    simp only [dH,Option.some_or,ne_eq,aW] at h7
    have h8:=B32 ms c0
    by_cases V:ms.length<=64*xn
    ·simp;omega
    ·exfalso
     have h3:(2:Int)^(64*xn)<=2^ms.length:=C8 (by decide) (by omega)
     have h4:(2:Int)^ms.length<=cB^ms.length:=by
      have:∀ k:Nat,(2:Int)^k<=cB^k:=by
       intro k
       induction k with
       | zero=>simp
       | succ k ih=>
        rw [bK,bK]
        exact Int.mul_le_mul ih (by decide) (by decide) (bZ (cY (by decide)))
      exact this _
     have h5:cB^ms.length*1<=cB^ms.length*(c0:Int):=bH (by omega) (bZ (cY (by decide)))
     omega
  refine Dn B81 ?_
  intro b x
  refine ⟨_,rfl,?_⟩
  have hz:(Value.agg (cI 20 (.int .u8 0))).cells=(aE 20 (bW .u8 0)).toArray:=by rfl
  rw [hz]
  have J:q b=none:=by
   cases hx1:q b with
   | none=>rfl
   | some o=>rw [H.le b o hx1] at x;cases x
  refine B7w (ns:=ns) gp rfl ⟨eT,_,q,⟨?_,?_,by simp,fun _=>⟨rfl,rfl,rfl⟩,id⟩,⟨by simp [yv],by simp,.inr ⟨b,aE 20 (bW .u8 0),rfl,J,rfl,by simp,by simp [yv]⟩⟩,?_,?_⟩ ap hb (t rfl) hW hn u (by rw [<- ai];exact hK)
  ·exact Heap.le_trans lg (Heap.le_trans i.le (Heap.le_trans j.le (Heap.le_put _ J)))
  ·rw [dB];exact H.put x _
  ·exact Heap.le_trans lg (Heap.le_trans i.le j.le)
  ·exact (show SlI .u64 y CA1 (nz ns) from i.slV).mono j.le
end
def Hx(i:Nat):Nat:=10^(19*2^i)
def B1z(i:Nat):Hx i=(10^19)^(2^i):=Nat.pow_mul _ _ _
def B6m(i:Nat):0<Hx i:=Nat.pow_pos (by decide)
def B1y:Hx 0=10000000000000000000:=by decide
def A2x(i:Nat):Hx (i+1)=Hx i*Hx i:=by
 unfold Hx
 rw [<- Nat.pow_add]
 congr 1
 rw [cO];omega
def C0j(i:Nat):(Hx i:Int)<b64^(2^i):=by
 have h:(10^19)^(2^i)<(18446744073709551616:Nat)^(2^i):=Nat.pow_lt_pow_left (by decide) (Nat.pos_iff_ne_zero.1 (Nat.pow_pos (by decide)))
 rw [<- B1z] at h
 have a:((Hx i:Nat):Int)<((18446744073709551616^(2^i):Nat):Int):=Int.ofNat_lt.2 h
 rw [bI] at a
 exact a
def C0k(i:Nat):(2:Int)^(63*2^i)<=(Hx i:Int):=by
 have h:(2^63)^(2^i)<=(10^19)^(2^i):=cM (by decide) _
 rw [<- B1z,<- Nat.pow_mul] at h
 have a:((2^(63*2^i):Nat):Int)<=((Hx i:Nat):Int):=Int.ofNat_le.2 h
 rw [bI] at a
 exact a
def C2z{k m:Nat}(h:(2:Int)^k<2^m):k<m:=by
 by_cases a:k<m
 ·exact a
 ·have:=C8 (B:=2) (by decide) (show m<=k by omega)
  omega
abbrev slT(s:Option aO × Nat × Nat):Value:=.slice s.1 s.2.1 s.2.2
def Pws(h:aV)(PA:Option aO)(k:Nat):Prop:=∃ ss:List (Option aO × Nat × Nat),ss.length=k/\SlV h PA (ss.map slT)/\∀ i s,ss[i]? = some s->s.2.1<=s.2.2/\Mw h s.1 s.2.1 (Hx i:Int)
def Pws.mono{h h':aV}(l:h.le h'){PA:Option aO}{k:Nat}(p:Pws h PA k):Pws h' PA k:=by
 obtain ⟨c,b,d,a⟩:=p
 exact ⟨c,b,d.mono l,fun i s e=>⟨(a i s e).1,(a i s e).2.mono l⟩⟩
def Pws.take{h:aV}{PA:Option aO}{k j:Nat}(p:Pws h PA k)(hj:j<=k):Pws h PA j:=by
 obtain ⟨a,f,d,b⟩:=p
 refine ⟨a.take j,by rw [bF];omega,?_,fun i s e=>?_⟩
 ·have:=SlV.cut (c:=(a.map slT).length) d (Nat.zero_le j) (by rw [cF];omega) (bB _)
  rw [H8,bM,bY,<- List.map_take] at this
  exact this
 ·rw [List.getElem?_take] at e
  split at e
  ·exact b i s e
  ·cases e
def Pws.at{h:aV}{PA:Option aO}{k i:Nat}(p:Pws h PA k)(hi:i<k):∃ (a:aO) (A:Option aO) (n c:Nat),PA=some a/\h.cell? (a.add i)=some (.slice A n c)/\n<=c/\Mw h A n (Hx i:Int):=by
 obtain ⟨d,m,g,e⟩:=p
 obtain ⟨a,f,b⟩:=g.at (i:=i) (by rw [cF];omega)
 rw [cV] at b
 obtain ⟨j,l⟩:=e i d[i] (aH (by omega))
 exact ⟨a,_,_,_,f,b,j,l⟩
def Mw.tenP_le{h:aV}{A:Option aO}{n i:Nat}(m:Mw h A n (Hx i:Int)):n<=2^i:=m.len_le (by decide) (C0j i)
def Mw.tenP_ge{h:aV}{A:Option aO}{n i:Nat}(m:Mw h A n (Hx i:Int)):2^i<2*n:=by
 have a:=m.lt (by decide)
 rw [Ky] at a
 have b:=C2z (Int.lt_of_le_of_lt (C0k i) a)
 omega
def Ext.weak{g g0 g' h':aV}{eT e2:bO}{A A':Option aO}{n c n' c':Nat}{l t:List UInt8}(l0:g0.le g)(x:Ext g eT A n c l t A' n' c' e2 g' h'):Ext g0 eT A n c l t A' n' c' e2 g' h':=⟨Heap.le_trans l0 x.le,x.priv,x.len,x.fit,x.tag⟩
def B93(w n:Nat):w<=(pad w n).length:=by simp [pad];omega
def C0s{j:Nat}(hj:j<=30):B4 (19*2^(min j 64))=((19*2^j:Nat):Int):=by
 rw [cD (by omega)]
 have b:2^j<=2^30:=aM (by decide) hj
 have a:(19*2^j:Int)=((19*2^j:Nat):Int):=by rw [aP,bI];rfl
 rw [a,B7 (by omega) (by have:(2:Nat)^30=1073741824:=by decide
                         omega)]
def A1o{l:List UInt8}(hd:∀ c∈l,G9 c):(J4 l:Int)<b64^l.length:=by
 have b:=Gr hd
 have d:10^l.length<=(18446744073709551616:Nat)^l.length:=cM (by decide) _
 have a:((J4 l:Nat):Int)<((18446744073709551616^l.length:Nat):Int):=Int.ofNat_lt.2 (aU b d)
 rw [bI] at a
 exact a
def Ss:∀ (k:Nat) {h g:aV} {K:VP} {A XA PA:Option aO} {n c xn xc pc v W:Nat} {eT:bO} {l:List UInt8},Gp g->cR h g eT 1 A n c (yv l)->Mw g XA xn (v:Int)->xn<=xc->xn<=10000000->Pws g PA k->k<=pc->k<=26->(W=0\/W=19*2^k)->n+(pad W v).length<=1000000000->
 (∀ A' n' c' e3 g' h',Ext g eT A n c l (pad W v) A' n' c' e3 g' h'->K (.slice A' n' c') h')->aF prog H0 #[.slice A n c,.slice XA xn xc,I (W:Int),.slice PA k pc] h K:=by
 intro k
 induction k with
 | zero=>
  intro h g K A XA PA n c xn xc pc v W eT l f p M y C m E hk Z S u
  have:=B93 W v
  refine Jd _ _ _ _ _ _ _ _ _ _ ?_
  unfold Je
  refine B6 (fun _=>?_) (fun e=>absurd (by decide) e)
  refine Fc f p M C (by omega) (by omega) ?_
  intro A' n' c' F g' h' x
  exact ⟨_,_,_,rfl,u _ _ _ F g' _ x⟩
 | succ j ih=>
  intro h g K A XA PA n c xn xc pc v W eT l f p M y C m E hk Z S u
  have aa:=B93 W v
  have e1:B4 (((j+1:Nat):Int)-1)=(j:Int):=by rw [B7 (by omega) (by omega)];omega
  refine Jd _ _ _ _ _ _ _ _ _ _ ?_
  unfold Je
  simp only [e1,aG,bY,H8,C0s (show j<=30 by omega)]
  refine B6 (fun e=>absurd e (by omega)) (fun _=>B6 (fun _=>?_) (fun _=>?_))
  ·refine Fc f p M C (by omega) (by omega) ?_
   intro A' n' c' F g' h' x
   exact ⟨_,_,_,rfl,u _ _ _ F g' _ x⟩
  ·obtain ⟨a,PA',pn,aj,ha,hc,s,Mp⟩:=m.at (i:=j) (by omega)
   refine ⟨a,ha,by omega,by omega,_,_,_,by rw [bU];exact B5 p.le hc,?_⟩
   have ae:=Mp.tenP_le
   have V:2^j<=2^26:=aM (by decide) (by omega)
   have ah:(2:Nat)^26=67108864:=by decide
   have H:=B6m j
   refine p.call ?_
   refine S7 M Mp y s (by omega) (by omega) (by omega) ?_
   intro A1 m1 c1 A2 T c2 g1 d k1 O M1 M2 h1 N
   refine ⟨_,_,_,_,_,_,rfl,?_⟩
   rw [<- Int.natCast_ediv] at M1
   rw [<- Int.natCast_emod] at M2
   have hv:=Nat.div_add_mod v (Hx j)
   have o:=Nat.mod_lt v H
   have ag:=aZ v (Hx j)
   generalize v/Hx j=q at *
   generalize v%Hx j=r at *
   have hz:=M1.len_zero (by decide)
   have Q:=M.lt (by decide)
   have ai:m1<=xn:=M1.len_le (by decide) (by omega)
   have ad:T<=xn:=M2.len_le (by decide) (by
    have h0:0<=Hx j*q:=Nat.zero_le _
    generalize Hx j*q=z at *
    omega)
   have D:v=q*10^(19*2^j)+r:=by rw [<- hv,Nat.mul_comm];rfl
   have af:2^(j+1)=2*2^j:=by rw [cO];omega
   refine B6 (fun e=>absurd e (by omega)) (fun _=>?_)
   refine D8 (fun e0=>D8 (fun eW=>?_) (fun eW=>?_)) (fun e0=>?_)
   ·obtain rfl:W=0:=by omega
    obtain rfl:q=0:=by omega
    obtain rfl:v=r:=by omega
    refine ⟨⟨by omega,by omega⟩,?_⟩
    refine ih (W:=0) (f.mono d) N M2 O (by omega) ((m.mono d).take (by omega)) (by omega) (by omega) (.inl rfl) S ?_
    intro A4 n4 c4 L J h4 B
    exact ⟨_,_,_,rfl,u _ _ _ _ _ _ (B.weak d)⟩
   all_goals
    have hw:q≠0\/19*2^j<=W:=by omega
    have b:=A3k (w:=W) (h:=q) (l:=r) (k:=19*2^j) o hw
    rw [<- D] at b
    have G:(pad (19*2^j) r).length=19*2^j:=Yo o
    have X:(pad W v).length=(pad (W-19*2^j) q).length+19*2^j:=by rw [b,aL,G]
    refine ⟨⟨by omega,by omega⟩,?_⟩
    have e3:(if (0:Int)>B4 ((W:Int)-((19*2^j:Nat):Int)) then (0:Int) else B4 ((W:Int)-((19*2^j:Nat):Int)))=((W-19*2^j:Nat):Int):=by
     rw [B7 (by omega) (by omega)]
     split<;>omega
    rw [e3]
    refine ih (f.mono d) N M1 k1 (by omega) ((m.mono d).take (by omega)) (by omega) (by omega) (by omega) (by omega) ?_
    intro A3 n3 c3 e3 g3 h3 t
    have ac:=t.len
    have R:=Heap.le_trans d t.le
    refine ⟨_,_,_,rfl,⟨by omega,by omega⟩,?_⟩
    refine ih (f.mono R) t.priv (M2.mono t.le) O (by omega) ((m.mono R).take (by omega)) (by omega) (by omega) (.inr rfl) (by omega) ?_
    intro A4 n4 c4 L J h4 B
    refine ⟨_,_,_,rfl,u _ _ _ L J _ ?_⟩
    rw [b]
    exact (t.trans B).weak d
def Ic:∀ (k:Nat) {h:aV} {K:VP} {PA:Option aO} {pc:Nat} {l:List UInt8},(∀ c∈l,G9 c)->l.length<=100000000->Pws h PA k->k<=pc->k<=30->(∀ A n c h',h.le h'->n<=c->Mw h' A n (J4 l:Int)->K (.slice A n c) h')->aF prog L7 #[.string (bs l),.slice PA k pc] h K:=by
 intro k
 induction k using Nat.strongRecOn with
 | _ k ih=>
  intro h K PA pc l x hl y Q hk G
  refine Xp _ _ _ _ ?_
  unfold Wg
  rw [H9]
  have b:aF prog M0 #[.string (bs l)] h (fun r w=>∃ (A:Option aO) (n c:Nat),r= .slice A n c/\K (.slice A n c) w):=by
   refine Sr x hl ?_
   intro A n c h' m g M
   exact ⟨_,_,_,rfl,G _ _ _ _ m g M⟩
  refine ⟨fun s w=>w=h/\∃ j:Nat,s=[I ((j:Int)-1)]/\j<=k,fun s _=>(iAt s 0+1).toNat,⟨rfl,k,by rw [B7 (by omega) (by omega)],bB _⟩,?_⟩
  rintro last w ⟨rfl,j,N,hj⟩
  obtain rfl:last=(j:Int)-1:=by simpa using N
  refine B6 (fun S=>?_) (fun S=>B6 (fun _=>b) (fun e=>absurd (show (j:Int)-1<0 by omega) e))
  obtain ⟨i,rfl⟩:∃ i,j=i+1:=⟨j-1,by omega⟩
  have e0:((i+1:Nat):Int)-1=(i:Int):=by omega
  have aa:0<2^i:=Nat.pow_pos (by decide)
  simp only [e0,aG,bY,H8,C0s (show i<=30 by omega)]
  refine B6 (fun e=>absurd e (by omega)) (fun _=>B6 (fun E=>?_) (fun E=>?_))
  ·refine ⟨⟨trivial,i,by rw [B7 (by omega) (by omega)],by omega⟩,?_⟩
   simp only [iAt,aI]
   rw [B7 (by omega) (by omega)]
   omega
  refine B6 (fun e=>absurd e (by omega)) (fun _=>B6 (fun _=>b) (fun D=>B6 (fun e=>absurd e (by omega)) (fun _=>?_)))
  have V:B4 ((l.length:Int)-((19*2^i:Nat):Int))=((l.length-19*2^i:Nat):Int):=by rw [B7 (by omega) (by omega)];omega
  simp only [V,aG,L3,bM,bY]
  obtain ⟨a,PA',pn,ad,W,g,t,Mp⟩:=y.at (i:=i) (by omega)
  refine ⟨⟨by omega,by omega⟩,⟨by omega,by omega⟩,a,W,by omega,by omega,_,_,_,by rw [bU];exact g,?_⟩
  have T:=Mp.tenP_le
  have ac:19*2^i<l.length:=by omega
  have p:∀ c∈l.take (l.length-19*2^i),G9 c:=fun c g=>x c (List.mem_of_mem_take g)
  have u:∀ c∈l.drop (l.length-19*2^i),G9 c:=fun c g=>x c (List.mem_of_mem_drop g)
  have B:(l.take (l.length-19*2^i)).length=l.length-19*2^i:=by rw [bF];omega
  have f:(l.drop (l.length-19*2^i)).length=19*2^i:=by rw [bX];omega
  have d:J4 l=J4 (l.take (l.length-19*2^i))*Hx i+J4 (l.drop (l.length-19*2^i)):=by
   have:=Gs (l.take (l.length-19*2^i)) (l.drop (l.length-19*2^i))
   rw [cJ,f] at this
   exact this
  have hb:=A1o x
  have q:=A1o p
  have o:=A1o u
  rw [B] at q
  rw [f] at o
  refine ih i (by omega) p (by omega) (y.take (by omega)) (by omega) (by omega) ?_
  intro A1 n1 c1 E m H M1
  refine ⟨_,_,_,rfl,m,?_⟩
  have X:=M1.len_le (by decide) q
  refine H2 M1 (Mp.mono m) H t (by omega) (by omega) ?_
  intro A2 n2 c2 h2 z R M2
  refine ⟨_,_,_,rfl,z,⟨by omega,by omega⟩,⟨by omega,by omega⟩,?_⟩
  rw [<- aP] at M2
  have Z:=M2.len_le (by decide) (Int.lt_of_le_of_lt (Int.ofNat_le.2 (by rw [d];exact Nat.le_add_right _ _)) hb)
  rw [bC (by rw [f];omega)]
  refine ih i (by omega) u (by omega) ((y.mono (Heap.le_trans m z)).take (by omega)) (by omega) (by omega) ?_
  intro A3 n3 c3 h3 C J M3
  refine ⟨_,_,_,rfl,C,?_⟩
  have O:=M3.len_le (by decide) o
  refine R9 (M2.mono C) M3 R J (by omega) (by omega) ?_
  intro A4 n4 c4 h4 F L M4
  refine ⟨_,_,_,rfl,F,G _ _ _ _ (Heap.le_trans m (Heap.le_trans z (Heap.le_trans C F))) L ?_⟩
  rw [<- Int.natCast_add,<- d] at M4
  exact M4
section
variable {h g:aV} {K:VP} {A XA:Option aO} {n c:Nat} {eT:bO} {l:List UInt8}
def A2y{hs:aV}{ss:List (Option aO × Nat × Nat)}{s:Option aO × Nat × Nat}(h3:∀ i s,ss[i]? = some s->s.2.1<=s.2.2/\Mw hs s.1 s.2.1 (Hx i:Int))(h4:s.2.1<=s.2.2/\Mw hs s.1 s.2.1 (Hx ss.length:Int)):∀ i t,(ss++[s])[i]? = some t->t.2.1<=t.2.2/\Mw hs t.1 t.2.1 (Hx i:Int):=by
 intro i t e
 by_cases b:i<ss.length
 ·rw [List.getElem?_append_left b] at e;exact h3 i t e
 ·rw [List.getElem?_append_right (by omega)] at e
  by_cases a:i=ss.length
  ·subst a
   simp at e
   subst e;exact h4
  ·rw [List.getElem?_eq_none (by simp;omega)] at e;cases e
def A04{hs:aV}{b:Nat}{e:bO}: ∀ i (t:Option aO × Nat × Nat),[((some ⟨b,0,none⟩:Option aO),1,1)][i]? = some t->t.2.1<=t.2.2/\Mw (hs.put b (.cells #[U 10000000000000000000] e)) t.1 t.2.1 (Hx i:Int):=by
 intro i t a
 rcases i with _|i
 ·simp at a
  subst a
  refine ⟨bB _,[10000000000000000000],rfl,SlI.new _ _ _ _ _,?_,?_,?_⟩
  ·intro x c;simp at c;subst c;decide
  ·unfold Norm;simp
  ·rw [B1y];simp [val]
 ·simp at a
def Uu(hd:∀ c∈l,G9 c)(hl:l.length<=100000000)(hK:∀ A n c h',h.le h'->n<=c->Mw h' A n (J4 l:Int)->K (.slice A n c) h'):aF prog Gb #[.string (bs l)] h K:=by
 refine Xo _ ?_
 unfold Wf
 rw [H9]
 refine B6 (fun h5=>?_) (fun _=>?_)
 ·refine An Q1 rfl ?_
  intro o r
  refine ⟨_,_,_,rfl,?_⟩
  refine Ds A80 (Priv.nil _ _ _ none) rfl rfl (by omega) (by omega) ?_
  intro A1 c1 h1 H j N
  refine ⟨fun s q=>∃ (d:List (Option aO × Nat × Nat)) (PA:Option aO) (k t:Nat) (g:aV),s=[.slice PA k t]/\cR q g Fl 1 PA k t (d.map slT)/\d.length=k/\0<k/\h.le g/\(∀ i s,d[i]? = some s->s.2.1<=s.2.2/\Mw g s.1 s.2.1 (Hx i:Int))/\2^(k-1)<=l.length,fun s _=>match s with|[.slice _ n _]=>l.length-n|_=>0,⟨[(some ⟨o,0,none⟩,1,1)],A1,1,c1,H,rfl,N,rfl,by omega,Heap.le_trans (Heap.le_put _ r) j,fun i s e=>⟨(A04 (hs:=h) (b:=o) (e:=C1) i s e).1,(A04 (hs:=h) (b:=o) (e:=C1) i s e).2.mono j⟩,by simp;omega⟩,?_⟩
  rintro PA k t q ⟨d,PA',k',J,g,hs,p,E,X,y,m,T⟩
  simp only [aD,aN,and_true] at hs
  obtain ⟨rfl,rfl,rfl⟩:=hs
  have D:k-1<27:=by
   by_cases f:k-1<27
   ·exact f
   ·have:2^27<=2^(k-1):=aM (by decide) (by omega)
    have:(2:Nat)^27=134217728:=by decide
    omega
  rw [aG,C0s (show k<=30 by omega)]
  have O:B4 ((k:Int)-1)=((k-1:Nat):Int):=by rw [B7 (by omega) (by omega)];omega
  have x:Pws q PA k:=⟨d,E,p.slV,fun i s e=>⟨(m i s e).1,(m i s e).2.mono p.le⟩⟩
  refine B6 (fun e=>absurd e (by omega)) (fun _=>B6 (fun L=>?_) (fun L=>?_))
  ·obtain ⟨a,W,f⟩:=p.slV.at (i:=k-1) (by rw [cF];omega)
   rw [cV] at f
   obtain ⟨z,M⟩:=m (k-1) (d[k-1]'(by omega)) (aH (by omega))
   generalize d[k-1]'(by omega)=s at *
   rw [O,aG,bU]
   refine ⟨a,W,by omega,by omega,_,_,_,f,?_⟩
   have B:=M.tenP_le
   refine p.call ?_
   refine H2 M M z z (by omega) (by omega) ?_
   intro A2 F c2 g2 C Q M2 h2 V
   refine ⟨_,_,_,rfl,?_⟩
   refine Ds A80 V rfl rfl (by omega) (by omega) ?_
   intro A3 G h3 S w R
   have hm:2^k=2*2^(k-1):=by
    obtain ⟨i,rfl⟩:∃ i,k=i+1:=⟨k-1,by omega⟩
    rw [cO];simp;omega
   have Z:k<2^k:=Nat.lt_two_pow_self
   refine ⟨⟨d++[(A2,F,c2)],A3,k+1,G,S,rfl,?_,by simp;omega,by omega,Heap.le_trans y (Heap.le_trans C w),?_,?_⟩,?_⟩
   ·rw [dA];exact R
   ·refine A2y (fun i s e=>⟨(m i s e).1,(m i s e).2.mono (Heap.le_trans C w)⟩) ⟨Q,?_⟩
    rw [E,show Hx k=Hx (k-1)*Hx (k-1) by rw [<- A2x];congr 1;omega,aP]
    exact M2.mono w
   ·rw [cN];omega
   ·show l.length-(k+1)<l.length-k
    omega
  ·refine Ic k hd hl x p.2.1 (by omega) ?_
   intro A n c h' u f M
   exact ⟨_,_,_,rfl,hK _ _ _ _ (Heap.le_trans y (Heap.le_trans p.le u)) f M⟩
 ·refine Ic 0 hd hl ⟨[],rfl,SlV.nil,by simp⟩ (by omega) (by omega) ?_
  intro A n c h' u f M
  exact ⟨_,_,_,rfl,hK _ _ _ _ u f M⟩
def Jt(hd:∀ c∈l,G9 c)(hl:l.length<=100000000)(hK:∀ A n c h',h.le h'->ZI h' false A n c (J4 l:Int)->K (.agg #[.bool false,.slice A n c]) h'):aF prog Jx #[.string (bs l)] h K:=by
 refine B4y _ ?_
 unfold B9m
 refine Uu hd hl ?_
 intro A n c h' b a M
 refine ⟨_,_,_,rfl,hK _ _ _ _ b ⟨a,?_,?_⟩⟩
 ·rw [aC];exact M
 ·symm;rw [decide_eq_false_iff_not];omega
end
def Priv.le_put'{h g:aV}{e:bO}{s:Nat}{A:Option aO}{n c:Nat}{xs:List Value}(p:cR h g e s A n c xs){b:Nat}(hb:h b=none)(o:Obj):g.le (g.put b o):=by
 intro k f d
 have a:k≠b:=by
  rintro rfl
  rw [p.le k f d] at hb;cases hb
 rw [B8 _ _ a];exact d
def B1i{n:Int}(h0:9223372036854775808<=n)(h1:n<18446744073709551616):B4 n=n-18446744073709551616:=by
 unfold B4 IntKind.wrap
 simp only [IntKind.signed,IntKind.bits]
 have e:n%18446744073709551616=n:=by omega
 simp only [show (2^64:Int)=18446744073709551616 from rfl,show (2^(64-1):Int)=9223372036854775808 from rfl,e]
 rw [iP (by simp;omega)]
section
variable {h g:aV} {K:VP} {A XA:Option aO} {n c:Nat} {eT:bO} {l:List UInt8}
def C3s{v xn:Nat}(hv:(v:Int)<b64^xn):(dd v).length<=20*xn:=by
 refine Q9.2 ?_
 rw [Nat.pow_mul]
 have a:((v:Nat):Int)<((18446744073709551616^xn:Nat):Int):=by rw [bI];exact hv
 exact aU (Int.ofNat_lt.1 a) (cM (by decide) _)
def He{xn xc v:Nat}(gp:Gp g)(p:cR h g eT 1 A n c (yv l))(M:Mw g XA xn (v:Int))(hxc:xn<=xc)(hx:xn<=10000000)(hn:n<=200000000)
 (hK:∀ A' n' c' e3 g' h',Ext g eT A n c l (N8 v) A' n' c' e3 g' h'->K (.slice A' n' c') h'):aF prog Z6 #[.slice A n c,.slice XA xn xc] h K:=by
 have h0:=M.len_zero (by decide)
 refine Wm _ _ _ _ _ _ ?_
 unfold Si
 refine D8 (fun e=>?_) (fun e=>?_)
 ·obtain rfl:v=0:=by omega
  refine Fx (ch:=48) rfl p (by omega) ?_
  intro A' n' c' G g' h' x
  exact hK _ _ _ _ _ _ x
 ·have R:v≠0:=by omega
  refine D8 (fun S=>?_) (fun S=>?_)
  ·obtain ⟨xs,t,sx,dx,nx,L⟩:=M
   obtain ⟨w,rfl⟩:∃ w,xs=[w]:=by
    rcases xs with _|⟨w,_|⟨w',r⟩⟩
    ·simp at t;omega
    ·exact ⟨w,rfl⟩
    ·simp at t;omega
   rw [W4] at L
   subst L
   refine (SlI.mono p.le sx).load t (by omega) (by omega) ?_
   have o:=dx v (by simp)
   refine Hc (gp.mono p.le) p (by have:(v:Int)<18446744073709551616:=o.2;omega) (by omega) ?_
   intro A' n' c' G g' h' x
   exact ⟨_,_,_,rfl,hK _ _ _ _ _ _ x⟩
  ·have ah:=C3s (M.lt (by decide))
   have ai:(pad 0 v).length<=200000000:=by rw [A8b];omega
   refine An Q1 rfl ?_
   intro C F
   refine ⟨_,_,_,rfl,?_⟩
   have p1:=p.put F (.cells #[U 10000000000000000000] C1)
   have l1:=p.le_put' F (.cells #[U 10000000000000000000] C1)
   have w1:=fun i s e=>A04 (hs:=g) (b:=C) (e:=C1) i s e
   generalize h.put C (Obj.cells #[U 10000000000000000000] C1)=h1 at *
   generalize g.put C (Obj.cells #[U 10000000000000000000] C1)=g1 at *
   refine An A80 rfl ?_
   intro b2 N
   refine ⟨_,_,_,rfl,?_⟩
   have split:∀ {y:aV} {m:List (Option aO × Nat × Nat)} {PA:Option aO} {k u:Nat} {f d:aV},cR y f Fl 1 PA k u (m.map slT)->cR f d eT 1 A n c (yv l)->m.length=k->g.le d->(∀ i s,m[i]? = some s->s.2.1<=s.2.2/\Mw d s.1 s.2.1 (Hx i:Int))->k<=26->
    aF prog H0 #[.slice A n c,.slice XA xn xc,I (0:Int),.slice PA k u] y (fun r X=>∃ (A1:Option aO) (n1 c1:Nat),r= .slice A1 n1 c1/\K (.slice A1 n1 c1) X):=by
    intro y m PA k u f d z D J B o j
    obtain ⟨g3,V,q⟩:=z.swap D
    have H:=Heap.le_trans B q.le
    refine Ss k (W:=0) (gp.mono H) V (M.mono H) hxc hx ⟨m,J,q.slV,fun i s e=>⟨(o i s e).1,(o i s e).2.mono q.le⟩⟩ q.2.1 j (.inl rfl) (by omega) ?_
    intro A' n' c' G g' h' x
    refine ⟨_,_,_,rfl,hK _ _ _ G g' _ ?_⟩
    rw [A8b,<- Z8 R] at x
    exact x.weak H
   refine ⟨fun s y=>∃ (m:List (Option aO × Nat × Nat)) (PA:Option aO) (k u:Nat) (f d:aV),s=[.slice PA k u]/\cR y f Fl 1 PA k u (m.map slT)/\cR f d eT 1 A n c (yv l)/\m.length=k/\0<k/\g.le d/\(∀ i s,m[i]? = some s->s.2.1<=s.2.2/\Mw d s.1 s.2.1 (Hx i:Int))/\2^(k-1)<=2*xn,fun s _=>match s with|[.slice _ n _]=>xn-n|_=>0,⟨[(some ⟨C,0,none⟩,1,1)],_,1,1,h1,g1,rfl,⟨by simp,by simp,.inr ⟨b2,[.slice (some ⟨C,0,none⟩) 1 1],rfl,N,rfl,by simp,by simp⟩⟩,p1,rfl,by omega,l1,w1,by simp;omega⟩,?_⟩
   rintro PA k u y ⟨m,PA',k',af,f,d,hs,z,D,J,ak,B,o,ag⟩
   simp only [aD,aN,and_true] at hs
   obtain ⟨rfl,rfl,rfl⟩:=hs
   have j:k<=26:=by
    by_cases E:k<=26
    ·exact E
    ·have h1:2^26<=2^(k-1):=aM (by decide) (by omega)
     have h2:(2:Nat)^26=67108864:=by decide
     omega
   refine B6 (fun aj=>?_) (fun _=>split z D J B o j)
   have S:B4 ((k:Int)-1)=((k-1:Nat):Int):=by rw [B7 (by omega) (by omega)];omega
   obtain ⟨a,ha,E⟩:=z.slV.at (i:=k-1) (by rw [cF];omega)
   rw [cV] at E
   obtain ⟨h4,Mk⟩:=o (k-1) (m[k-1]'(by omega)) (aH (by omega))
   generalize m[k-1]'(by omega)=s at *
   simp only [S,aG,bU]
   refine ⟨a,ha,by omega,by omega,_,_,_,E,?_⟩
   have ae:=Mk.tenP_ge
   have ac:=Mk.tenP_le
   have G:B4 (2*(s.2.1:Int))=2*(s.2.1:Int):=B7 (by omega) (by omega)
   rw [G]
   refine B6 (fun h5=>?_) (fun _=>split z D J B o j)
   refine ⟨a,ha,by omega,by omega,_,_,_,E,?_⟩
   refine z.call (D.call ?_)
   refine H2 Mk Mk h4 h4 (by omega) (by omega) ?_
   intro A2 m2 c2 g2 l2 k2 M2 aa O ad Z
   refine ⟨_,_,_,rfl,?_⟩
   refine Ds A80 Z rfl rfl (by omega) (by omega) ?_
   intro A3 c3 h3 g3 H p3
   obtain ⟨g4,T,Q⟩:=O.after H
   have hm:2^k=2*2^(k-1):=by
    obtain ⟨i,rfl⟩:∃ i,k=i+1:=⟨k-1,by omega⟩
    rw [cO];simp;omega
   have al:k<2^k:=Nat.lt_two_pow_self
   refine ⟨⟨m++[(A2,m2,c2)],A3,k+1,c3,g3,g4,rfl,?_,Q,by simp;omega,by omega,Heap.le_trans B (Heap.le_trans l2 T),?_,?_⟩,?_⟩
   ·rw [dA];exact p3
   ·refine A2y (fun i s e=>⟨(o i s e).1,(o i s e).2.mono (Heap.le_trans l2 T)⟩) ⟨k2,?_⟩
    rw [J,show Hx k=Hx (k-1)*Hx (k-1) by rw [<- A2x];congr 1;omega,aP]
    exact M2.mono T
   ·rw [cN];omega
   ·show xn-(k+1)<xn-k
    omega
def B6d{z:Int}{s:Bool}{xn xc m:Nat}(i:ZI h s XA xn xc z)(hz:ZB m z)(hm:m<=100000000):xn<=10000000:=by
 obtain ⟨k,hk⟩:∃ k,k=10000000:=⟨_,rfl⟩
 rw [<- hk]
 refine i.mag.len_le (by decide) ?_
 rw [Ky]
 have a:(z.natAbs:Int)<2^m:=by
  have:((z.natAbs:Nat):Int)<((2^m:Nat):Int):=Int.ofNat_lt.2 hz
  simpa using this
 have b:=C8 (B:=2) (by decide) (show m<=64*k by omega)
 exact Int.lt_of_lt_of_le a b
def Hp{s:Bool}{xn xc:Nat}{z:Int}(gp:Gp g)(p:cR h g eT 1 A n c (yv l))(i:ZI g s XA xn xc z){m:Nat}(hz:ZB m z)(hm:m<=100000000)(hn:n<=100000000)
 (hK:∀ A' n' c' e3 g' h',Ext g eT A n c l (Hl z) A' n' c' e3 g' h'->K (.slice A' n' c') h'):aF prog Ii #[.agg #[.bool s,.slice XA xn xc],.slice A n c] h K:=by
 have j:=B6d i hz hm
 refine B0q _ _ _ _ _ _ _ ?_
 unfold B4v
 refine Br.of (fun e=>?_) (fun e=>?_)
 ·have a:z<0:=by have:=i.sgn;rw [e] at this;simpa using this.symm
  rw [Th a] at hK
  refine Fx (ch:=45) rfl p (by omega) ?_
  intro A1 t c1 u w o b
  have:=b.len
  refine He (gp.mono b.le) b.priv (i.mag.mono b.le) i.cap j (by simp at this;omega) ?_
  intro A2 k c2 q r d f
  exact ⟨_,_,_,rfl,hK _ _ _ _ _ _ (b.trans f)⟩
 ·have a:¬ z<0:=by have:=i.sgn;rw [e] at this;simpa using this.symm
  rw [Jp a] at hK
  refine He gp p i.mag i.cap j (by omega) ?_
  intro A2 k c2 q r d f
  exact ⟨_,_,_,rfl,hK _ _ _ _ _ _ f⟩
def Hn{s:Bool}{xn xc:Nat}{z:Int}(gp:Gp h)(i:ZI h s XA xn xc z){m:Nat}(hz:ZB m z)(hm:m<=100000000)(hK:K (.string (bs (Hl z))) h):aF prog Ig #[.agg #[.bool s,.slice XA xn xc]] h K:=by
 refine FCall.pure (B0n _ _ _ _ ?_)
 unfold B4p
 refine Hp (l:=[]) (eT:=F8) gp (Priv.nil _ _ _ _) i hz hm (by omega) ?_
 intro A' b e f d c x
 refine ⟨_,_,_,rfl,?_⟩
 have a:=x.len
 refine Jq Eg.und Cm T1 x.priv.slV (by simpa using a) ⟨_,rfl,?_⟩
 exact ⟨Heap.le_trans x.le x.priv.le,hK⟩
def A5j{s:Bool}{xn xc:Nat}{z:Int}(i:ZI h s XA xn xc z)(hK1: -9223372036854775808<=z->z<9223372036854775808->K (.tuple #[I z,.bool true]) h)(hK0:¬ (-9223372036854775808<=z/\z<9223372036854775808)->K (.tuple #[I 0,.bool false]) h):aF prog A0y #[.agg #[.bool s,.slice XA xn xc]] h K:=by
 have u:=i.zeroIff
 have p:=Ab i.sgn
 refine B4t _ _ _ _ ?_
 unfold B9k
 refine D8 (fun e=>?_) (fun e=>?_)
 ·obtain rfl:z=0:=by omega
  exact hK1 (by omega) (by omega)
 ·obtain ⟨g,a,n,o,y,f⟩:=i.mag
  have j:=N9 o 0
  refine n.load a (by omega) (by omega) ?_
  rw [show ((0:Int)).toNat=0 from rfl]
  refine B6 (fun m=>?_) (fun m=>?_)
  ·refine hK0 ?_
   have l:=i.mag.ge (by decide) (by omega)
   have A:b64^1<=b64^(xn-1):=C8 (by decide) (by omega)
   have t:b64^1=18446744073709551616:=by decide
   omega
  ·obtain ⟨w,rfl⟩:∃ w,g=[w]:=by
    rcases g with _|⟨w,_|⟨x,r⟩⟩
    ·simp at a;omega
    ·exact ⟨w,rfl⟩
    ·simp at a;omega
   rw [W4] at f
   have q:[w].getD 0 0=w:=rfl
   rw [q] at j ⊢
   rcases p with ⟨rfl,k⟩|⟨rfl,k⟩
   ·refine Br.of (fun _=>?_) (fun d=>by cases d)
    refine B6 (fun c=>?_) (fun c=>?_)
    ·have:B4 (C0 (0-w))=z:=by rw [E4,B1i (by omega) (by omega)];omega
     rw [this];exact hK1 (by omega) (by omega)
    ·refine Br.of (fun b=>by cases b) (fun _=>?_)
     exact hK0 (by omega)
   ·refine Br.of (fun d=>by cases d) (fun _=>?_)
    refine Br.of (fun _=>?_) (fun b=>by cases b)
    refine B6 (fun c=>?_) (fun c=>?_)
    ·have:B4 w=z:=by rw [B7 (by omega) (by omega)];omega
     rw [this];exact hK1 (by omega) (by omega)
    ·exact hK0 (by omega)
end
def A08(q:Rat)(f:Int):(q-f).num=q.num-f*q.den/\(q-f).den=q.den:=by
 have b:aQ (q.num-f*q.den).natAbs q.den=1:=by
  have a:aS (q.num-f*q.den) q.den=aS q.num q.den:=Int.gcd_sub_mul_right_left _ _ _
  have c:aS q.num q.den=1:=by
   have:=q.reduced
   unfold Nat.Coprime at this
   unfold aS
   simpa using this
  rw [c] at a
  unfold aS at a
  simpa using a
 have e:q-f=⟨q.num-f*q.den,q.den,q.den_nz,b⟩:=by
  rw [Rat.sub_def',Rat.mk_eq_mkRat];simp
 rw [e];exact ⟨rfl,rfl⟩
def Ny{r:Rat}(h:0<r):r⁻¹.num=r.den/\(r⁻¹.den:Int)=r.num/\0<r⁻¹:=by
 have a:0<r.num:=by
  have:=aX 0 r
  simp at this;exact this.1 h
 refine ⟨?_,?_,Rat.inv_pos.2 h⟩
 ·rw [Rat.num_inv,aJ a,Int.one_mul]
 ·rw [Rat.den_inv,iN (by omega)];omega
def A8f{r:Rat}(h:0<r):0<r.num:=by
 have:=aX 0 r
 simp at this;exact this.1 h
def Ir{q:Rat}{f:Int}(h1:(f:Rat)<q)(h2:q<f+1):(q-f)⁻¹.num=q.den/\((q-f)⁻¹.den:Int)=q.num-f*q.den/\(q-f)⁻¹.den<q.den/\1<(q-f)⁻¹:=by
 have j:0<q-f:=by grind
 have i:q-f<1:=by grind
 obtain ⟨a,b,c⟩:=Ny j
 obtain ⟨d,e⟩:=A08 q f
 have g:=(aX (q-f) 1).1 i
 simp only [Rat.one_num,Rat.one_den] at g
 rw [e] at a g
 rw [d] at b g
 refine ⟨a,b,by omega,?_⟩
 rw [aX]
 simp only [Rat.one_num,Rat.one_den]
 rw [a,b];omega
def Yy(q:Rat):(q<=q.ceil)/\((q.ceil:Rat)<q+1)/\((q.floor:Rat)<=q)/\(q<q.floor+1):=by
 refine ⟨Rat.le_ceil,Rat.ceil_lt,Rat.floor_le q,?_⟩
 have:=Rat.lt_floor_add_one q
 simpa using this
def A4f{q:Rat}(h:(q.floor:Rat)<q):q.ceil=q.floor+1:=by
 obtain ⟨e,i,c,g⟩:=Yy q
 have a:(q.floor:Rat)<(q.ceil:Rat):=by grind
 have b:(q.ceil:Rat)<((q.floor+2:Int):Rat):=by
  rw [cZ];simp;grind
 have d:=Rat.intCast_lt_intCast.1 a
 have f:=Rat.intCast_lt_intCast.1 b
 omega
def A6y{q:Rat}(h:¬ (q.floor:Rat)<q):(q.ceil:Rat)=q/\(q.floor:Rat)=q:=by
 have a:=Rat.floor_le q
 have e:(q.floor:Rat)=q:=Rat.le_antisymm a (Rat.not_lt.1 h)
 refine ⟨?_,e⟩
 have:q.ceil=q.floor:=by
  conv=>lhs;rw [<- e]
  exact Rat.ceil_intCast _
 rw [this,e]
def B33{lo hi:Rat}(h:¬ ((lo.ceil:Rat)<=hi\/¬ lo<=hi)):(lo.floor:Rat)<lo/\lo<=hi/\hi<lo.floor+1:=by
 have a:¬ (lo.ceil:Rat)<=hi:=fun e=>h (.inl e)
 have c:lo<=hi:=by
  by_cases e:lo<=hi
  ·exact e
  ·exact absurd (.inr e) h
 by_cases b:(lo.floor:Rat)<lo
 ·refine ⟨b,c,?_⟩
  have:=A4f b
  rw [this,cZ,Rat.not_le] at a
  simpa using a
 ·exfalso
  rw [(A6y b).1] at a
  exact a c
def Hk(lo hi:Rat):Rat:=
 if _h:(lo.ceil:Rat)<=hi\/¬ lo<=hi then lo.ceil else lo.floor+(Hk (hi-lo.floor)⁻¹ (lo-lo.floor)⁻¹)⁻¹
termination_by lo.den+hi.den
decreasing_by
 obtain ⟨a,b,c⟩:=B33 _h
 have d:=(Ir a (Std.lt_of_le_of_lt b c)).2.2.1
 have e:=(Ir (Std.lt_of_lt_of_le a b) c).2.2.1
 omega
def Ul{lo hi:Rat}(h:(lo.ceil:Rat)<=hi):Hk lo hi=lo.ceil:=by
 rw [Hk,dif_pos (.inl h)]
def Pz{lo hi:Rat}(h:¬ (lo.ceil:Rat)<=hi)(h2:lo<=hi):Hk lo hi=lo.floor+(Hk (hi-lo.floor)⁻¹ (lo-lo.floor)⁻¹)⁻¹:=by
 rw [Hk,dif_neg (fun e=>e.elim h (fun e=>e h2))]
def Cc{a b:Rat}(ha:0<a)(h:a<=b):b⁻¹<=a⁻¹:=by
 have g:0<b:=Std.lt_of_lt_of_le ha h
 obtain ⟨c,e,_⟩:=Ny ha
 obtain ⟨f,d,_⟩:=Ny g
 have:=(Rat.le_iff a b).1 h
 rw [Rat.le_iff,c,e,f,d]
 rw [dO (b.den:Int),dO (a.den:Int)]
 exact this
def A35:∀ n (lo hi:Rat),lo.den+hi.den<=n->0<lo->lo<=hi->(lo<=Hk lo hi/\Hk lo hi<=hi)/\∀ y,lo<=y->y<=hi->(Hk lo hi).den<=y.den/\(Hk lo hi).num<=y.num:=by
 intro n
 induction n with
 | zero=>intro lo hi h;have:=lo.den_nz;omega
 | succ n ih=>
  intro lo hi W o d
  by_cases h:(lo.ceil:Rat)<=hi
  ·rw [Ul h]
   refine ⟨⟨(Yy lo).1,h⟩,?_⟩
   intro y k p
   have C:0<y:=Std.lt_of_lt_of_le o k
   refine ⟨by rw [Rat.den_intCast];have:=y.den_nz;omega,?_⟩
   rw [Rat.num_intCast,Rat.ceil_le_iff]
   refine Rat.le_trans k ?_
   rw [Rat.le_iff,Rat.num_intCast,Rat.den_intCast]
   have t:=A8f C
   have A:1<=(y.den:Int):=by have:=y.den_nz;omega
   have:=bH A (bZ t)
   simpa using this
  ·obtain ⟨a,b,c⟩:=B33 (fun e=>e.elim h (fun e=>e d))
   rw [Pz h d]
   generalize hf:lo.floor=f at *
   have l:0<=f:=by
    have:(-1:Int)<lo.floor:=by
     have M:(0:Int)<=lo.floor:=Rat.le_floor_iff.2 (by simpa using Rat.le_of_lt o)
     omega
    omega
   obtain ⟨Q,G,S,V⟩:=Ir a (Std.lt_of_le_of_lt b c)
   obtain ⟨D,J,E,q⟩:=Ir (Std.lt_of_lt_of_le a b) c
   have i:(hi-f)⁻¹<=(lo-f)⁻¹:=Cc (by grind) (by grind)
   obtain ⟨⟨m,z⟩,s⟩:=ih (hi-f)⁻¹ (lo-f)⁻¹ (by omega) (by grind) i
   generalize hx:Hk (hi-f)⁻¹ (lo-f)⁻¹=x at *
   have u:1<x:=Std.lt_of_lt_of_le q m
   have g:0<x:=by grind
   obtain ⟨R,F,T⟩:=Ny g
   have r:=Cc (show 0<(hi-f)⁻¹ by grind) m
   have B:=Cc g z
   rw [Rat.inv_inv] at r B
   refine ⟨⟨by grind,by grind⟩,?_⟩
   have j:((f:Rat)+x⁻¹).den=x⁻¹.den/\((f:Rat)+x⁻¹).num=x⁻¹.num+f*x⁻¹.den:=by
    have:=A08 (x⁻¹) (-f)
    rw [Rat.intCast_neg] at this
    have e:x⁻¹ - -(f:Rat)=f+x⁻¹:=by grind
    rw [e] at this
    refine ⟨this.2,?_⟩
    rw [this.1];grind
   intro y k p
   obtain ⟨H,X,O,Z⟩:=Ir (Std.lt_of_lt_of_le a k) (Std.lt_of_le_of_lt p c)
   obtain ⟨N,L⟩:=s (y-f)⁻¹ (Cc (by grind) (by grind)) (Cc (by grind) (by grind))
   have w:x⁻¹.den<=y.den:=by omega
   refine ⟨by rw [j.1];exact w,?_⟩
   rw [j.2]
   have:=bH (show (x⁻¹.den:Int)<=y.den by omega) l
   omega
def B6y{lo hi:Rat}(h0:0<lo)(h:lo<=hi):lo<=Hk lo hi/\Hk lo hi<=hi:=(A35 _ lo hi (bB _) h0 h).1
def A83{m:Nat}{lo hi:Rat}(h0:0<lo)(h:lo<=hi)(hs:Sz m lo):Sz m (Hk lo hi):=by
 obtain ⟨⟨a,_⟩,c⟩:=A35 _ lo hi (bB _) h0 h
 obtain ⟨b,d⟩:=c lo Rat.le_refl h
 have:=A8f (Std.lt_of_lt_of_le h0 a)
 exact ⟨hs.num.le (by omega),hs.den.le (by simpa using b)⟩
def B2b(lo hi:Rat):Rat:=if hi<0 then -Hk (-hi) (-lo) else if lo<=0 then 0 else Hk lo hi
def B38(a b:Rat):(a*b).num=a.num.tdiv (aQ a.num.natAbs b.den:Nat)*b.num.tdiv (aQ b.num.natAbs a.den:Nat)/\(a*b).den=a.den/(aQ b.num.natAbs a.den)*(b.den/(aQ a.num.natAbs b.den)):=by
 show (Rat.mul a b).num=_/\(Rat.mul a b).den=_
 delta Rat.mul
 simp only [Int.divExact_eq_tdiv,Nat.divExact_eq_div,and_self]
def Zd(a b:Rat)(h:a.den.gcd b.den=1):(a+b).num=a.num*b.den+b.num*a.den/\(a+b).den=a.den*b.den:=by
 show (dC a b).num=_/\(dC a b).den=_
 delta dC
 simp only [h,dif_pos,and_self]
def Zc(a b:Rat)(h:a.den.gcd b.den≠1){g r:Nat}{z:Int}(hg:g=a.den.gcd b.den)(hz:z=a.num*(b.den/g:Nat)+b.num*(a.den/g:Nat))(hr:r=z.natAbs.gcd g):(a+b).num=z.tdiv r/\(a+b).den=a.den/g*(b.den/r):=by
 subst hg hz
 have c:r∣b.den:=by rw [hr];exact Nat.dvd_trans (bV ..) (bV ..)
 show (dC a b).num=_/\(dC a b).den=_
 delta dC
 simp only [h,dif_neg,not_false_eq_true]
 rw [Rat.maybeNormalize_eq]
 subst hr
 refine ⟨?_,Nat.mul_div_assoc _ c⟩
 simp only [Int.divExact_eq_tdiv]
def Oz(a:Rat)(z:Int):(a+z).num=z*a.den+a.num/\(a+z).den=a.den:=by
 have:=A08 a (-z)
 rw [Rat.intCast_neg] at this
 have e:a - -(z:Rat)=a+z:=by grind
 rw [e] at this
 refine ⟨by rw [this.1,Int.neg_mul];omega,this.2⟩
def Yt{q:Rat}(h:q.den=1):q=(q.num:Rat):=by
 apply Rat.ext
 ·simp
 ·simpa using h
abbrev dgt(c:UInt8):Bool:=decide (G9 c)
def Nc(l:List UInt8):∀ c∈l.takeWhile dgt,G9 c:=by
 induction l with
 | nil=>simp
 | cons d r ih=>
  intro c a
  by_cases b:G9 d
  ·simp [b] at a
   rcases a with rfl|a
   ·exact b
   ·exact ih c a
  ·simp [b] at a
def B77(l:List UInt8):Bool:=decide ([45] <+: l)
def Ek(l:List UInt8):List UInt8:=if [45] <+: l then l.drop 1 else l
def A8a(l:List UInt8):l=(if B77 l then [45] else [])++Ek l:=by
 unfold B77 Ek
 by_cases h:[45] <+: l
 ·obtain ⟨t,rfl⟩:=h;simp
 ·simp [h]
def B2t(l:List UInt8):B77 l=(l.head? == some 45):=by
 unfold B77
 cases l with
 | nil=>simp
 | cons c r=>
  rw [cG,bJ,decide_eq_true_iff,beq_iff_eq,aW]
  constructor
  ·rintro ⟨t,e⟩;simp at e;exact e.1.symm
  ·rintro rfl;exact ⟨r,rfl⟩
def Form.parts{l:List UInt8}{neg:Bool}{a b:List UInt8}(f:Form l neg a b):neg=B77 l/\a=(Ek l).takeWhile dgt/\(if b=[] then [] else 47::b)=(Ek l).dropWhile dgt:=by
 have g:neg=B77 l:=by rw [B2t];exact f.head
 have e:=A8a l
 rw [<- g] at e
 have i:=e.symm.trans f.eq
 rw [aR] at i
 have j:=dI i
 have k:∀ c,(if b=[] then [] else 47::b:List UInt8).head? = some c->¬ G9 c:=by
  intro c d
  split at d
  ·simp at d
  ·simp at d;subst d;decide
 have:=Fq f.da k
 rw [<- j] at this
 exact ⟨g,this.1.symm,this.2.symm⟩
section
variable {h g:aV} {K:VP} {l:List UInt8}
def Km(hl:l.length<=1000000000)(hK:K (.tuple #[.string (bs (l.takeWhile dgt)),.string (bs (l.dropWhile dgt))]) h):aF prog Ag #[.string (bs l)] h K:=by
 refine A20 _ ?_
 unfold Zh
 simp only [H9]
 refine ⟨fun L f=>L=[I (((l.takeWhile dgt).length:Nat):Int)]/\f=h,?_,?_⟩
 ·refine ⟨fun L f=>∃ k:Nat,L=[I k]/\f=h/\k<=l.length/\(∀ c∈l.take k,G9 c),fun L _=>l.length-(iAt L 0).toNat,⟨0,rfl,rfl,by omega,by simp⟩,?_⟩
  rintro n f ⟨k,j,rfl,u,g⟩
  obtain rfl:=sI1 j
  have a:(∀ c,(l.drop k).head? = some c->¬ G9 c)->[I (k:Int)]=[I (((l.takeWhile dgt).length:Nat):Int)]/\f=f:=by
   intro w
   have:=Fq g w
   rw [cJ] at this
   refine ⟨?_,rfl⟩
   rw [this.1,bF,cD u]
  refine B6 (fun x=>?_) (fun x=>?_)
  ·have e:k<l.length:=by omega
   have d:(bs l)[(k:Int).toNat]? = some l[k]:=by rw [aG,Is,aH e]
   have q:(l.drop k).head? = some l[k]:=by rw [List.head?_drop,aH e]
   refine ⟨l[k],⟨by omega,d⟩,B6 (fun t=>?_) (fun t=>?_)⟩
   ·refine ⟨l[k],⟨by omega,d⟩,B6 (fun o=>?_) (fun o=>?_)⟩
    ·rw [B7 (by omega) (by omega)]
     refine ⟨⟨k+1,rfl,rfl,by omega,?_⟩,by simp only [iAt,aI];omega⟩
     rw [cQ e]
     intro c b
     rcases List.mem_append.1 b with m|m
     ·exact g c m
     ·rw [List.mem_singleton.1 m];exact ⟨by omega,by omega⟩
    ·exact a (fun c b=>by rw [q] at b;cases b;intro g;exact o (by have:=g.2;omega))
   ·exact a (fun c b=>by rw [q] at b;cases b;intro g;exact t (by have:=g.1;omega))
  ·exact a (fun c b=>by rw [dN (by omega)] at b;cases b)
 ·rintro n f ⟨j,rfl⟩
  obtain rfl:n=(((l.takeWhile dgt).length:Nat):Int):=by simpa using j
  have i:(l.takeWhile dgt).length<=l.length:=(dM _).length_le
  have s:l.take (l.takeWhile dgt).length=l.takeWhile dgt:=by
   conv=>lhs;rw [<- bD (p:=dgt) (l:=l)]
   rw [bD,List.prefix_iff_eq_take.1 (List.takeWhile_prefix _)]
   rw [bF,cD i]
  have r:l.drop (l.takeWhile dgt).length=l.dropWhile dgt:=by
   have y:l.takeWhile dgt++l.drop (l.takeWhile dgt).length=l.takeWhile dgt++l.dropWhile dgt:=by
    rw [bD]
    conv=>lhs;lhs;rw [<- s]
    exact cJ _ _
   exact dI y
  refine ⟨⟨by omega,by omega⟩,⟨by omega,by omega⟩,?_⟩
  rw [aG,L3,L3,bM,bY,s,r,bC (by rw [<- r,bX];omega)]
  exact hK
def Y2(a:List UInt8):((bs a).toList==({ data:=#[] }:ByteArray).toList)=decide (a=[]):=Kn a []
def Py(hl:l.length<=1000000000)(hK1:∀ neg a b,Form l neg a b->K (.tuple #[.agg #[.bool neg,.string (bs a),.string (bs b)],.bool true]) h)(hK0:(∀ neg a b,¬ Form l neg a b)->∀ neg a b,K (.tuple #[.agg #[.bool neg,.string (bs a),.string (bs b)],.bool false]) h):aF prog Oe #[.string (bs l)] h K:=by
 refine B53 _ ?_
 unfold B9r
 refine Xm (q:=[45]) ⟨_,_,rfl,?_⟩
 have D:(Ek l).length<=l.length:=by unfold Ek;split<;>simp
 show aF prog Ag #[.string (bs (Ek l))] h _
 refine Km (by omega) ⟨_,_,rfl,?_⟩
 show Br _ _ _
 have B:Ek l=(Ek l).takeWhile dgt++(Ek l).dropWhile dgt:=List.takeWhile_append_dropWhile.symm
 have w:∀ c∈(Ek l).takeWhile dgt,G9 c:=Nc _
 have m:∀ neg a b,Form l neg a b->neg=B77 l/\a=(Ek l).takeWhile dgt/\(if b=[] then [] else 47::b)=(Ek l).dropWhile dgt:=fun neg a b f=>f.parts
 have g:=A8a l
 have aa:((Ek l).takeWhile dgt).length<=l.length:=cP (dM _).length_le D
 have T:((Ek l).dropWhile dgt).length<=l.length:=cP (List.dropWhile_sublist _).length_le D
 have ac:∀ c,((Ek l).dropWhile dgt).head? = some c->¬ G9 c:=fun c Q=>by
  have:=List.head?_dropWhile_not dgt (Ek l)
  rw [Q] at this
  simpa using this
 show Br _ _ _
 have A:decide ([45] <+: l)=B77 l:=rfl
 rw [A]
 generalize B77 l=neg at *
 generalize (Ek l).takeWhile dgt=a at *
 generalize (Ek l).dropWhile dgt=r at *
 generalize Ek l=t at *
 subst B
 have R:((bs a).toList==({ data:=#[48] }:ByteArray).toList)=decide (a=[48]):=Kn a [48]
 rw [R,Y2,Y2]
 refine B6 (fun S=>?_) (fun S=>?_)
 ·subst S
  refine O9 (Br.of (fun W=>?_) (fun W=>?_))
  ·subst W
   refine hK0 ?_ _ _ []
   intro F x i f
   obtain ⟨rfl,rfl,_⟩:=m _ _ _ f
   rcases f.ha with d|d
   ·exact d rfl
   ·cases d.2.1
  ·subst W
   by_cases H:r=[]
   ·rw [decide_eq_true H]
    subst H
    refine hK1 false [48] [] ⟨by simpa using g,by simpa using w,by simp,by simp,.inr ⟨rfl,rfl,rfl⟩,by simp,by simp⟩
   ·rw [decide_eq_false H]
    refine hK0 ?_ _ _ []
    intro F x i f
    obtain ⟨rfl,rfl,n⟩:=m _ _ _ f
    rcases f.ha with d|d
    ·exact d rfl
    ·rw [d.2.2] at n;exact H (by simpa using n.symm)
 ·refine ⟨fun L hp=>L=[.bool (decide (a=[]\/a.head? = some 48))]/\hp=h,?_,?_⟩
  ·refine B6 (fun d=>⟨by simp [d],rfl⟩) (fun d=>?_)
   obtain ⟨c,k,rfl⟩:=aY d
   refine ⟨c,⟨by omega,by rw [Is];rfl⟩,?_,rfl⟩
   congr 2
   rw [bJ,beq_iff_eq,decide_eq_true_iff]
   simp only [reduceCtorEq,false_or,cG,aW]
   constructor
   ·intro e;apply UInt8.toNat_inj.1;show c.toNat=48;omega
   ·rintro rfl;rfl
  rintro X hp ⟨hL,rfl⟩
  obtain rfl:X=decide (a=[]\/a.head? = some 48):=by simpa using hL
  refine B6 (fun d=>?_) (fun d=>?_)
  ·refine hK0 ?_ _ _ []
   intro F x i f
   obtain ⟨rfl,rfl,_⟩:=m _ _ _ f
   rcases d with d|d
   ·exact f.ne d
   ·rcases f.ha with n|n
    ·exact n d
    ·exact S n.1
  ·have u:a≠[]:=fun e=>d (.inl e)
   have z:a.head? ≠ some 48:=fun e=>d (.inr e)
   refine B6 (fun n=>?_) (fun n=>?_)
   ·subst n
    exact hK1 neg a [] ⟨by simpa using g,w,by simp,u,.inl z,by simp,by simp⟩
   ·obtain ⟨c,k,rfl⟩:=aY n
    refine ⟨c,⟨by omega,by rw [Is];rfl⟩,I3 (fun Z=>?_) (fun Z=>?_)⟩
    ·refine hK0 ?_ _ _ []
     intro F x i f
     obtain ⟨rfl,rfl,o⟩:=m _ _ _ f
     by_cases y:i=[]
     ·simp [y] at o
     ·rw [iN y] at o
      simp at o
      exact Z (by rw [<- o.1];rfl)
    ·have Q:c=47:=by apply UInt8.toNat_inj.1;show c.toNat=47;omega
     subst Q
     refine ⟨⟨by omega,by rw [H9];simp;omega⟩,?_⟩
     rw [L3,show ((1:Int)).toNat=1 from rfl,H9,bC (by simp),List.drop_succ_cons,bM]
     refine Km (by simp at T;omega) ⟨_,_,rfl,?_⟩
     have p:k=k.takeWhile dgt++k.dropWhile dgt:=List.takeWhile_append_dropWhile.symm
     have J:∀ c∈k.takeWhile dgt,G9 c:=Nc _
     have M:∀ i:List UInt8,(∀ c∈i,G9 c)->i=k->k.takeWhile dgt=i/\k.dropWhile dgt=[]:=by
      intro i hd e
      subst e
      have:=Fq (r:=[]) hd (by simp)
      simpa using this
     generalize k.takeWhile dgt=b at *
     generalize k.dropWhile dgt=s at *
     have G:(s≠[]\/b=[]\/b.head? = some 48\/b=[49])->∀ neg' x i,¬ Form (((if neg=true then [45] else [])++(a++47::k))) neg' x i:=by
      rintro C F x i f
      rw [<- g] at f
      obtain ⟨rfl,rfl,o⟩:=m _ _ _ f
      by_cases y:i=[]
      ·simp [y] at o
      ·rw [iN y] at o
       simp at o
       obtain ⟨e6,e7⟩:=M i f.db o
       subst e6
       rcases C with j|j|j|j
       ·exact j e7
       ·exact y j
       ·exact f.hb j
       ·exact f.b1 j
     rw [Y2,Y2]
     have O:((bs b).toList==({ data:=#[49] }:ByteArray).toList)=decide (b=[49]):=Kn b [49]
     rw [O]
     refine B6 (fun j=>?_) (fun j=>hK0 (by rw [g];exact G (.inl j)) _ _ _)
     subst j
     rw [dB] at p
     subst p
     refine O9 (B6 (fun N=>hK0 (by rw [g];exact G (.inr (.inl N))) _ _ _) (fun N=>?_))
     obtain ⟨c,V,rfl⟩:=aY N
     refine ⟨c,⟨by omega,by rw [Is];rfl⟩,I3 (fun h8=>?_) (fun h8=>?_)⟩
     ·by_cases E:c::V=[49]
      ·rw [decide_eq_true E]
       exact hK0 (by rw [g];exact G (.inr (.inr (.inr E)))) _ _ _
      ·rw [decide_eq_false E]
       refine hK1 neg a (c::V) ⟨by simpa using g,w,J,u,.inl z,?_,E⟩
       intro e;simp at e;exact h8 (by rw [e];rfl)
     ·have hh:(c::V).head? = some 48:=by
       simp only [cG,aW]
       apply UInt8.toNat_inj.1;show c.toNat=48;omega
      exact hK0 (by rw [g];exact G (.inr (.inr (.inl hh)))) _ _ _
end
def B80:(prog.info? B1p).map (fun i=>i.zero)=some (some (.agg (cI 48 (.int .u8 0)))):=by kernel_rfl
def A4c{x y:Int}(hy:0<y):(bL x y).num=x.tdiv (aS x y)/\((bL x y).den:Int)=y.tdiv (aS x y):=by
 have b:(aS x y:Int)∣x:=Int.gcd_dvd_left ..
 have a:(aS x y:Int)∣y:=Int.gcd_dvd_right ..
 constructor
 ·rw [Rat.num_divInt,aJ hy,Int.one_mul,Int.gcd_comm,dJ b]
 ·rw [Rat.den_divInt,iN (by omega),Int.gcd_comm,Int.natCast_ediv,Int.natAbs_of_nonneg (by omega),dJ a]
def A02{q:Rat}(h:q.den=1):I9 q=Hl q.num:=by unfold I9;rw [iP h,dB]
def A2r{q:Rat}(h:q.den≠1):I9 q=Hl q.num++[47]++Hl (q.den:Int):=by
 unfold I9;rw [iN h,Jp (i:=(q.den:Int)) (by omega),aC];simp
section
variable {h g:aV} {K:VP} {l:List UInt8}
def C51{k:Nat}(h:k<=18):10^k<=1000000000000000000:=cP (aM (by decide) h) (by decide)
def Hb(hd:∀ c∈l,G9 c)(hl:l.length<=18)(hK:K (I (J4 l:Int)) h):aF prog Z7 #[.string (bs l)] h K:=by
 refine Ws _ ?_
 unfold Sk
 simp only [H9]
 refine ⟨fun L g=>∃ k:Nat,L=[I (J4 (l.take k):Int),I k]/\g=h/\k<=l.length,fun L _=>l.length-(iAt L 1).toNat,⟨0,rfl,rfl,by omega⟩,?_⟩
 rintro n p g ⟨k,f,rfl,o⟩
 simp only [aD,aK,and_true,true_and] at f
 obtain ⟨rfl,rfl⟩:=f
 refine B6 (fun j=>?_) (fun j=>?_)
 ·have a:k<l.length:=by omega
  have b:=hd l[k] (cU a)
  have d:=Gr (l:=l.take (k+1)) (fun c i=>hd c (List.mem_of_mem_take i))
  rw [bF,cD (by omega)] at d
  have m:=C51 (k:=k+1) (by omega)
  have q:J4 (l.take (k+1))=10*J4 (l.take k)+(l[k].toNat-48):=by rw [cQ a,Ip]
  unfold G9 at b
  refine ⟨l[k],⟨by omega,by rw [aG,Is,aH a]⟩,?_⟩
  have e:B4 (B4 (10*((J4 (l.take k):Nat):Int))+B4 (wu8 (((l[k].toNat:Nat):Int)-48)))=((J4 (l.take (k+1)):Nat):Int):=by
   rw [Yc (by omega) (by omega),B7 (n:=((l[k].toNat:Nat):Int)-48) (by omega) (by omega),B7 (n:=10*((J4 (l.take k):Nat):Int)) (by omega) (by omega),B7 (by omega) (by omega)]
   omega
  rw [e,B7 (n:=(k:Int)+1) (by omega) (by omega)]
  exact ⟨⟨k+1,rfl,rfl,by omega⟩,by simp only [iAt,aI,aT];omega⟩
 ·obtain rfl:k=l.length:=by omega
  rw [List.take_length];exact hK
def A2v{a b:Nat}(hK:K (I (aQ a b:Int)) h):aF prog A8k #[I (a:Int),I (b:Int)] h K:=by
 refine C27 _ _ ?_
 unfold C6l
 refine ⟨fun L f=>∃ x y:Nat,L=[I x,I y]/\f=h/\aQ x y=aQ a b,fun L _=>(iAt L 1).toNat,⟨a,b,rfl,rfl,rfl⟩,?_⟩
 rintro i k f ⟨x,y,j,rfl,c⟩
 obtain ⟨rfl,rfl⟩:i=(x:Int)/\k=(y:Int):=by simpa using j
 refine I3 (fun d=>?_) (fun d=>?_)
 ·have g:y≠0:=by omega
  refine B6 (fun e=>absurd e d) (fun _=>?_)
  have e:Int.tmod (x:Int) (y:Int)=((x%y:Nat):Int):=(Int.ofNat_tmod x y).symm
  rw [e]
  have l:=Nat.mod_lt x (Nat.pos_of_ne_zero g)
  refine ⟨⟨y,x%y,rfl,rfl,?_⟩,by simp only [iAt,aI,aT];omega⟩
  rw [<- c,Nat.gcd_comm x y,Nat.gcd_rec y x,Nat.gcd_comm]
 ·obtain rfl:y=0:=by omega
  rw [Nat.gcd_zero_right] at c
  rw [c];exact hK
def Dr(hK1:∀ q,l=I9 q->q.num.natAbs<1000000000->q.den<1000000000->K (.tuple #[.agg #[I q.num,I (q.den:Int)],.bool true]) h)(hK0:K (.tuple #[.agg #[I 0,I 0],.bool false]) h):aF prog Af #[.string (bs l)] h K:=by
 refine A1z _ ?_
 unfold Zg
 rw [H9]
 refine B6 (fun _=>hK0) (fun Q=>?_)
 refine Py (by omega) ?_ ?_
 ·intro neg a b f
  refine ⟨_,_,_,_,rfl,?_⟩
  simp only [H9]
  refine ⟨fun L i=>L=[.bool (decide (a.length>9\/b.length>9))]/\i=h,Br.of (fun e=>by cases e) (fun _=>B6 (fun y=>⟨?_,rfl⟩) (fun y=>⟨?_,rfl⟩)),?_⟩
  ·rw [decide_eq_true (show a.length>9\/b.length>9 by omega)]
  ·by_cases C:b.length>9
   ·rw [decide_eq_true (show a.length>9\/b.length>9 by omega)]
    exact congrArg (fun x=>[Value.bool x]) (decide_eq_true (show ((b.length:Nat):Int)>9 by omega))
   ·rw [decide_eq_false (show ¬ (a.length>9\/b.length>9) by omega)]
    exact congrArg (fun x=>[Value.bool x]) (decide_eq_false (show ¬ ((b.length:Nat):Int)>9 by omega))
  rintro g i ⟨s,rfl⟩
  obtain rfl:g=decide (a.length>9\/b.length>9):=by simpa using s
  refine B6 (fun _=>hK0) (fun y=>?_)
  have o:(Sd neg a).natAbs=J4 a:=by unfold Sd;split<;>simp
  have H:=Gr f.da
  have F:=Gr f.db
  have u:∀ k,k<=9->10^k<=1000000000:=fun k J=>cP (aM (by decide) J) (by decide)
  have E:=u a.length (by omega)
  have D:=u b.length (by omega)
  refine Hb f.da (by omega) ⟨_,rfl,?_⟩
  refine ⟨fun L d=>L=[I 0,I 0,I (J4 a:Int),I (Mi b:Int)]/\d=i/\aQ (J4 a) (Mi b)=1,?_,?_⟩
  ·rw [Y2]
   refine O9 (B6 (fun p=>?_) (fun p=>?_))
   ·subst p;exact ⟨rfl,rfl,by unfold Mi;simp⟩
   ·refine Hb f.db (by omega) ⟨_,rfl,A2v ⟨_,rfl,I3 (fun _=>hK0) (fun M=>?_)⟩⟩
    have t:Mi b=J4 b:=by unfold Mi;rw [iN p]
    rw [t]
    exact ⟨rfl,rfl,by omega⟩
  ·rintro A G R O r ⟨n,rfl,B⟩
   simp only [aD,aK,and_true,true_and] at n
   obtain ⟨_,_,rfl,rfl⟩:=n
   obtain ⟨q,w⟩:=f.isNum.2 B
   have c:=f.of_txt w
   have j:Mi b<1000000000:=by unfold Mi;split<;>omega
   refine ⟨fun L d=>L=[I q.num,I (q.den:Int)]/\d=r,Br.of (fun e=>?_) (fun e=>?_),?_⟩
   ·rw [c.1,c.2,e,B7 (by omega) (by omega)]
    exact ⟨by unfold Sd;simp,rfl⟩
   ·rw [c.1,c.2,e]
    exact ⟨by unfold Sd;simp,rfl⟩
   ·rintro T N z ⟨m,rfl⟩
    simp only [aD,aK,and_true,true_and] at m
    obtain ⟨rfl,rfl⟩:=m
    exact hK1 q w (by rw [c.1,o];omega) (by rw [c.2];exact j)
 ·intro S neg a b
  refine ⟨_,_,_,_,rfl,?_⟩
  refine ⟨fun L i=>L=[.bool true]/\i=h,O9 ⟨rfl,rfl⟩,?_⟩
  rintro g i ⟨s,rfl⟩
  obtain rfl:g=true:=by simpa using s
  exact Br.of (fun _=>hK0) (fun e=>by cases e)
def Ac{l':List UInt8}(hK1:∀ p q,l=I9 p->l'=I9 q->p.num.natAbs<1000000000->p.den<1000000000->q.num.natAbs<1000000000->q.den<1000000000->K (.tuple #[.agg #[I p.num,I (p.den:Int)],.agg #[I q.num,I (q.den:Int)],.bool true]) h)(hK0:K (.tuple #[.agg #[I 0,I 0],.agg #[I 0,I 0],.bool false]) h):aF prog X7 #[.string (bs l),.string (bs l')] h K:=by
 refine A7c _ _ ?_
 unfold A98
 refine Dr ?_ ⟨_,_,_,rfl,O9 hK0⟩
 intro p c d f
 refine ⟨_,_,_,rfl,O9 ?_⟩
 refine Dr ?_ ⟨_,_,_,rfl,O9 hK0⟩
 intro q a b e
 exact ⟨_,_,_,rfl,O9 (hK1 p q c a d f b e)⟩
def S5{num den:Int}(gp:Gp h)(hd:den≠0)(h1:num.natAbs<4000000000000000000)(h2:den.natAbs<4000000000000000000)(hK:K (.string (bs (I9 (bL num den)))) h):aF prog P7 #[I num,I den] h K:=by
 refine FCall.pure (Wr _ _ ?_)
 unfold Sj
 refine ⟨fun L u=>u=h/\∃ n d:Int,L=[I n,I d]/\0<d/\bL n d=bL num den/\n.natAbs=num.natAbs/\d.natAbs=den.natAbs,B6 (fun j=>⟨rfl,-num,-den,?_,by omega,Rat.neg_divInt_neg num den,by omega,by omega⟩) (fun j=>⟨rfl,num,den,rfl,by omega,rfl,rfl,rfl⟩),?_⟩
 ·rw [B7 (by omega) (by omega),B7 (by omega) (by omega),Int.zero_sub,Int.zero_sub]
 rintro f p u ⟨rfl,n,d,C,r,T,hn,E⟩
 simp only [aD,aK,and_true,true_and] at C
 obtain ⟨rfl,rfl⟩:=C
 rw [<- T] at hK
 have g:=A4c (x:=f) r
 have Q:=Vt (a:=f) (b:=p) (by omega)
 generalize bL f p=q at *
 have aa:=q.den_nz
 refine ⟨fun L t=>t=u/\L=[I q.num,I (q.den:Int)],I3 (fun j=>?_) (fun j=>?_),?_⟩
 ·have A:(if (B4 (0-f))>f then B4 (0-f) else f)=((f.natAbs:Nat):Int):=by
   rw [B7 (by omega) (by omega)];split<;>omega
  obtain ⟨k,rfl⟩:∃ k:Nat,p=k:=⟨p.toNat,by omega⟩
  rw [A]
  refine A2v ⟨_,rfl,?_⟩
  have S:0<aQ f.natAbs k:=dG _ (by omega)
  refine B6 (fun e=>by omega) (fun _=>B6 (fun e=>by omega) (fun _=>⟨rfl,?_⟩))
  have B:Int.tdiv f ((aQ f.natAbs k:Nat):Int)=q.num:=g.1.symm
  have G:Int.tdiv (k:Int) ((aQ f.natAbs k:Nat):Int)=(q.den:Int):=g.2.symm
  rw [B,G,B7 (by omega) (by omega),B7 (by omega) (by omega)]
 ·subst j
  have F:aS f 1=1:=by simp
  rw [F] at g
  simp at g
  refine ⟨rfl,?_⟩
  rw [g.1]
  simp only [aD,aK,and_true,true_and];omega
 rintro n2 d2 l ⟨rfl,m⟩
 simp only [aD,aK,and_true,true_and] at m
 obtain ⟨rfl,rfl⟩:=m
 refine D8 (fun j=>?_) (fun j=>?_)
 ·rw [A02 (by omega)] at hK
  exact Kj gp (by omega) (by omega) ⟨_,rfl,B3 _,hK⟩
 ·rw [A2r (by omega)] at hK
  refine Dn B80 ?_
  intro b hb
  have H:(Value.agg (cI 48 (.int .u8 0))).cells=(aE 48 (bW .u8 0)).toArray:=by rfl
  rw [H]
  refine ⟨_,rfl,⟨by omega,by omega⟩,?_⟩
  have o:J9 (some ⟨b,0,none⟩) 48 0 1=some ⟨b,0,none⟩:=rfl
  rw [o,show ((0:Int)).toNat-0=0 from rfl,show 48-0=48 from rfl]
  have Z:cR (l.put b (.cells (aE 48 (bW .u8 0)).toArray B1p)) l B1p 1 (some ⟨b,0,none⟩) 0 48 (yv []):=⟨by simp [yv],by omega,.inr ⟨b,aE 48 (bW .u8 0),rfl,hb,rfl,by simp,by simp [yv]⟩⟩
  refine Ko gp Z (by omega) (by omega) (by omega) ?_
  intro A1 J c1 A g1 X w
  refine ⟨_,_,_,rfl,?_⟩
  have M:(Hl q.num).length<=20:=by
   unfold Hl
   have:(N8 q.num.natAbs).length<=19:=(Ov (by decide)).2 (aU (show q.num.natAbs<10000000000000000000 by omega) (by decide))
   split<;>simp<;>omega
  have N:=w.len
  refine Fx (ch:=47) rfl w.priv (by omega) ?_
  intro A2 R c2 e2 g2 W z
  have i:=w.trans z
  have s:=i.len
  rw [aL,cK] at s
  refine Ko (gp.mono i.le) z.priv (by omega) (by omega) (by omega) ?_
  intro A3 O c3 B g3 V D
  refine ⟨_,_,_,rfl,?_⟩
  rw [aR] at D
  have c:=i.trans D
  have y:=c.len
  refine Jq Eg.und Cm T1 c.priv.slV (by simpa using y) ⟨_,rfl,?_⟩
  refine ⟨Heap.le_trans c.le c.priv.le,?_⟩
  simpa using hK
end
structure RQ (h:aV) (w:QV) (q:Rat):Prop where
 num:ZI h w.s w.A w.n w.c q.num
 den:ZI h w.s2 w.A2 w.n2 w.c2 (if q.den=1 then 0 else (q.den:Int))
def ZB.gcd{m:Nat}{x y:Int}(hy:y≠0)(h:ZB m y):ZB m (aS x y:Int):=by
 refine h.le ?_
 rw [aC]
 exact dF (by omega) (Int.natAbs_dvd_natAbs.2 (Int.gcd_dvd_right x y))
def C0r{x y a b:Int}(ha:0<a)(hb:0<b)(hs:x.sign≠y.sign):Ey (x*a) (y*b)=Ey x y:=by
 have g:(x*a).sign=x.sign:=by rw [Int.sign_mul,aJ ha,Int.mul_one]
 have f:(y*b).sign=y.sign:=by rw [Int.sign_mul,aJ hb,Int.mul_one]
 have key:∀ u v:Int,u.sign≠v.sign->(u<v↔u.sign<v.sign)/\(v<u↔v.sign<u.sign):=by
  intro u v h
  have t:∀ w:Int,(w<0/\w.sign= -1)\/(w=0/\w.sign=0)\/(0<w/\w.sign=1):=fun w=>by
   rcases Int.lt_trichotomy w 0 with c|c|c
   ·exact .inl ⟨c,bN c⟩
   ·exact .inr (.inl ⟨c,by rw [c];rfl⟩)
   ·exact .inr (.inr ⟨c,aJ c⟩)
  have k:=t u
  have l:=t v
  omega
 have i:=key x y hs
 have d:=key (x*a) (y*b) (by rw [g,f];exact hs)
 rw [g,f] at d
 unfold Ey
 by_cases c:x<y
 ·rw [iP c,iP (d.1.2 (i.1.1 c))]
 ·rw [iN c,iN (fun e=>c (i.1.2 (d.1.1 e)))]
  by_cases j:y<x
  ·rw [iP j,iP (d.2.2 (i.2.1 j))]
  ·rw [iN j,iN (fun e=>j (i.2.2 (d.2.1 e)))]
section
variable {h h':aV} {K:VP} {A B:Option aO} {n c n' c':Nat} {s s':Bool} {x y z:Int} {m:Nat} {p q:Rat} {a b w:QV} {l:List UInt8}
def RQ.mono(hl:h.le h')(i:RQ h w q):RQ h' w q:=⟨i.num.mono hl,i.den.mono hl⟩
def RQ.whole(i:ZI h s A n c z):RQ h ⟨s,A,n,c,false,none,0,0⟩ (z:Rat):=⟨by simpa using i,by simpa using ZI.zero⟩
def RQ.zero:RQ h ⟨false,none,0,0,false,none,0,0⟩ 0:=⟨ZI.zero,ZI.zero⟩
def N7(i:RQ h w q)(hK:K (.bool (decide (q.den=1))) h):aF prog E8 #[.agg #[.bool w.s2,.slice w.A2 w.n2 w.c2]] h K:=by
 refine F9 i.den ?_
 have:=q.den_nz
 have e:decide ((if q.den=1 then (0:Int) else (q.den:Int))=0)=decide (q.den=1):=by
  rw [decide_eq_decide];split<;>omega
 rw [e];exact hK
def S8(i:ZI h s A n c z)(j:ZI h s' B n' c' y)(h1:q.num=z)(h2:(q.den:Int)=y)(hK:∀ w,RQ h w q->K w.v h):aF prog U9 #[.agg #[.bool s,.slice A n c],.agg #[.bool s',.slice B n' c']] h K:=by
 subst h1 h2
 refine B0t _ _ _ _ _ _ _ _ ?_
 unfold B55
 refine Q4 j ⟨_,rfl,B6 (fun e=>?_) (fun e=>?_)⟩
 ·exact hK ⟨s,A,n,c,false,none,0,0⟩ ⟨i,by rw [iP (by omega)];exact ZI.zero⟩
 ·exact hK ⟨s,A,n,c,s',B,n',c'⟩ ⟨i,by rw [iN (by omega)];exact j⟩
def Ej(i:RQ h w q)(hK:∀ s A n c h',h.le h'->ZI h' s A n c (q.den:Int)->K (.agg #[.bool s,.slice A n c]) h'):aF prog Ry #[w.v] h K:=by
 refine C2g _ _ _ _ _ _ _ _ ?_
 unfold C6s
 refine N7 i ⟨_,rfl,B6 (fun e=>?_) (fun e=>?_)⟩
 ·refine Ec (by decide) (by decide) ?_
  intro s A n c d b a
  exact ⟨_,_,_,_,rfl,hK _ _ _ _ _ b (by rw [e];exact a)⟩
 ·have:=i.den
  rw [iN e] at this
  exact hK _ _ _ _ _ (B3 _) this
def Vz(gl:Gtz h)(i:ZI h s A n c x)(j:ZI h s' B n' c' y)(hx:ZB m x)(hy:ZB m y)(hm:m<=6400000000)(hy0:0<y)(hK:∀ s1 A1 n1 c1 s2 A2 n2 c2 h',h.le h'->ZI h' s1 A1 n1 c1 (x.tdiv (aS x y))->ZI h' s2 A2 n2 c2 (y.tdiv (aS x y))->K (.tuple #[.agg #[.bool s1,.slice A1 n1 c1],.agg #[.bool s2,.slice A2 n2 c2]]) h'):aF prog Of #[.agg #[.bool s,.slice A n c],.agg #[.bool s',.slice B n' c']] h K:=by
 refine B0u _ _ _ _ _ _ _ _ ?_
 unfold B57
 refine Q4 j ⟨_,rfl,B6 (fun e=>?_) (fun e=>?_)⟩
 ·subst e
  have k:aS x 1=1:=by simp
  rw [k] at hK
  exact hK _ _ _ _ _ _ _ _ _ (B3 _) (by simpa using i) (by simpa using j)
 ·refine Cj gl i j hx hy hm ?_
  intro A1 n1 c1 u d g
  have k:=Int.gcd_pos_of_ne_zero_right x (show y≠0 by omega)
  have a:ZB m (aS x y:Int):=ZB.gcd (by omega) hy
  refine ⟨_,_,_,_,rfl,Q3 (i.mono d) g hx a hm (by omega) ?_⟩
  intro s2 A2 n2 c2 w b l
  refine ⟨_,_,_,_,rfl,b,Q3 (j.mono (Heap.le_trans d b)) (g.mono b) hy a hm (by omega) ?_⟩
  intro t A3 q p r f o
  exact ⟨_,_,_,_,rfl,f,hK _ _ _ _ _ _ _ _ _ (Heap.le_trans d (Heap.le_trans b f)) (l.mono f) o⟩
def Yi(i:RQ h w q)(hK:∀ w',RQ h w' (-q)->K w'.v h):aF prog A8m #[w.v] h K:=by
 refine C2d _ _ _ _ _ _ _ _ ?_
 unfold C6p
 refine T8 i.num ?_
 intro a b
 exact ⟨_,_,_,_,rfl,B3 _,hK ⟨a,w.A,w.n,w.c,w.s2,w.A2,w.n2,w.c2⟩ ⟨by simpa using b,by simpa using i.den⟩⟩
def Fu(i:RQ h w q)(hK:K (I q.num.sign) h):aF prog Qm #[w.v] h K:=by
 refine B8a _ _ _ _ _ _ _ _ ?_
 unfold C46
 exact Eb i.num ⟨_,rfl,hK⟩
def A3c(i:RQ h w q)(hK:K (.bool (decide (q=0))) h):aF prog Og #[w.v] h K:=by
 refine B0x _ _ _ _ _ _ _ _ ?_
 unfold B5c
 refine F9 i.num ⟨_,rfl,?_⟩
 have e:decide (q.num=0)=decide (q=0):=by rw [decide_eq_decide];exact cC
 rw [e];exact hK
def Yl(gl:Gtz h)(i:RQ h a p)(j:RQ h b q)(hp:Sz m p)(hq:Sz m q)(hm:2*m+1<=6400000000)(hK:∀ w h',h.le h'->RQ h' w (p+q)->K w.v h'):aF prog A8p #[a.v,b.v] h K:=by
 have an:=p.den_nz
 have ap:=q.den_nz
 have M:∀ {z:Int},ZB m z->ZB (2*m+1) z:=fun s=>s.mono (by omega)
 refine C2h _ _ _ _ _ _ _ _ _ _ _ _ _ _ _ _ ?_
 unfold C6t
 refine ⟨fun L hp=>L=[.bool (decide (p.den=1/\q.den=1))]/\hp=h,N7 i ⟨_,rfl,B6 (fun e=>?_) (fun e=>?_)⟩,?_⟩
 ·exact N7 j ⟨_,rfl,by simp [e],rfl⟩
 ·exact ⟨by simp [e],rfl⟩
 rintro aa aj ⟨hL,rfl⟩
 obtain rfl:aa=decide (p.den=1/\q.den=1):=by simpa using hL
 refine B6 (fun e=>?_) (fun e=>?_)
 ·refine Hq i.num j.num hp.num hq.num (by omega) ?_
  intro s1 A1 Z c1 h1 k T
  refine ⟨_,_,_,_,rfl,hK ⟨s1,A1,Z,c1,false,none,0,0⟩ _ k ?_⟩
  have:=RQ.whole T
  rw [cZ,<- Yt e.1,<- Yt e.2] at this
  exact this
 ·refine ⟨fun L hp=>L=[.bool (decide (p.den=1))]/\hp=aj,N7 i ⟨_,rfl,rfl,rfl⟩,?_⟩
  rintro af ar ⟨hL,rfl⟩
  obtain rfl:af=decide (p.den=1):=by simpa using hL
  refine B6 (fun Q=>?_) (fun Q=>?_)
  ·have ah:q.den≠1:=fun V=>e ⟨Q,V⟩
   have jd:=j.den
   rw [iN ah] at jd
   refine L4 i.num jd hp.num hq.den (by omega) ?_
   intro s1 A1 Z c1 h1 k T
   refine ⟨_,_,_,_,rfl,k,Hq (m:=2*m+1) T (j.num.mono k) ((hp.num.mul hq.den).mono (by omega)) (M hq.num) hm ?_⟩
   intro s2 A2 n2 c2 h2 n i2
   have c:=Oz q p.num
   rw [<- Yt Q,Rat.add_comm] at c
   refine ⟨_,_,_,_,rfl,n,hK ⟨s2,A2,n2,c2,b.s2,b.A2,b.n2,b.c2⟩ _ (Heap.le_trans k n) ⟨by rw [c.1];exact i2,?_⟩⟩
   rw [c.2]
   exact j.den.mono (Heap.le_trans k n)
  ·refine N7 j ⟨_,rfl,B6 (fun V=>?_) (fun V=>?_)⟩
   ·have f:=i.den
    rw [iN Q] at f
    refine L4 j.num f hq.num hp.den (by omega) ?_
    intro s1 A1 Z c1 h1 k T
    refine ⟨_,_,_,_,rfl,k,Hq (m:=2*m+1) T (i.num.mono k) ((hq.num.mul hp.den).mono (by omega)) (M hp.num) hm ?_⟩
    intro s2 A2 n2 c2 h2 n i2
    have c:=Oz p q.num
    rw [<- Yt V] at c
    refine ⟨_,_,_,_,rfl,n,hK ⟨s2,A2,n2,c2,a.s2,a.A2,a.n2,a.c2⟩ _ (Heap.le_trans k n) ⟨by rw [c.1];exact i2,?_⟩⟩
    rw [c.2]
    exact i.den.mono (Heap.le_trans k n)
   ·have f:=i.den
    have o:=j.den
    rw [iN Q] at f
    rw [iN V] at o
    refine Cj gl f o hp.den hq.den (by omega) ?_
    intro A1 Z c1 h1 k F
    rw [dK] at F
    obtain ⟨g,hg⟩:∃ g,g=p.den.gcd q.den:=⟨_,rfl⟩
    rw [<- hg] at F
    have H:0<g:=by rw [hg];exact Nat.gcd_pos_of_pos_left _ (by omega)
    have ad:g∣q.den:=by rw [hg];exact bV ..
    have x:ZB m (g:Int):=hq.den.le (by simpa using dF (by omega) ad)
    refine ⟨_,_,_,_,rfl,Q3 (o.mono k) F hq.den x (by omega) (by omega) ?_⟩
    intro s2 A2 n2 c2 h2 n il
    rw [<- cL] at il
    refine ⟨_,_,_,_,rfl,n,Q3 (f.mono (Heap.le_trans k n)) (F.mono n) hp.den x (by omega) (by omega) ?_⟩
    intro s3 A3 n3 c3 h3 R ir
    rw [<- cL] at ir
    have E:ZB m ((q.den/g:Nat):Int):=hq.den.le (by rw [aC,aC];exact aZ _ _)
    have t:ZB m ((p.den/g:Nat):Int):=hp.den.le (by rw [aC,aC];exact aZ _ _)
    have D:=Heap.le_trans k (Heap.le_trans n R)
    refine ⟨_,_,_,_,rfl,R,L4 (i.num.mono D) (il.mono R) hp.num E (by omega) ?_⟩
    intro s4 A4 n4 c4 h4 A i4
    refine ⟨_,_,_,_,rfl,A,L4 (j.num.mono (Heap.le_trans D A)) (ir.mono A) hq.num t (by omega) ?_⟩
    intro s5 A5 n5 c5 h5 G i5
    refine ⟨_,_,_,_,rfl,G,Hq (m:=2*m) (i4.mono G) i5 ((hp.num.mul E).mono (by omega)) ((hq.num.mul t).mono (by omega)) (by omega) ?_⟩
    intro s6 A6 n6 c6 h6 N S
    obtain ⟨z,s⟩:∃ z,z=p.num*((q.den/g:Nat):Int)+q.num*((p.den/g:Nat):Int):=⟨_,rfl⟩
    rw [<- s] at S
    have W:ZB (2*m+1) z:=by
     rw [s]
     exact ((hp.num.mul E).mono (show m+m<=2*m by omega)).add ((hq.num.mul t).mono (show m+m<=2*m by omega))
    have d:=Heap.le_trans D (Heap.le_trans A (Heap.le_trans G N))
    refine ⟨_,_,_,_,rfl,N,F9 S ⟨_,rfl,B6 (fun C=>?_) (fun C=>?_)⟩⟩
    ·have:p+q=0:=by
      rw [<- cC]
      by_cases u:p.den.gcd q.den=1
      ·have:=(Zd p q u).1
       rw [<- hg] at u
       rw [u,cX,cX] at s
       rw [this,<- s,C]
      ·have:=(Zc p q u hg s rfl).1
       rw [this,C];simp
     rw [this] at hK
     exact hK ⟨false,none,0,0,false,none,0,0⟩ _ d RQ.zero
    ·refine Q4 (F.mono (Heap.le_trans n (Heap.le_trans R (Heap.le_trans A (Heap.le_trans G N))))) ⟨_,rfl,B6 (fun ag=>?_) (fun ag=>?_)⟩
     ·have l:g=1:=by omega
      have c:=Zd p q (by rw [<- hg];exact l)
      rw [l,cX,cX] at s
      refine L4 (f.mono d) (o.mono d) hp.den hq.den (by omega) ?_
      intro s7 A7 n7 c7 h7 y J
      refine ⟨_,_,_,_,rfl,y,S8 (q:=p+q) (S.mono y) J (by rw [c.1,s]) (by rw [c.2,aP]) ?_⟩
      intro w iw
      exact ⟨_,_,_,_,_,_,_,_,rfl,B3 _,hK _ _ (Heap.le_trans d y) iw⟩
     ·have l:p.den.gcd q.den≠1:=by rw [<- hg];omega
      obtain ⟨r,hr⟩:∃ r,r=z.natAbs.gcd g:=⟨_,rfl⟩
      have c:=Zc p q l hg s hr
      have al:0<r:=by rw [hr];exact dG _ H
      have ak:r<=g:=by rw [hr];exact dF H (bV ..)
      have ac:=F.mono (Heap.le_trans n (Heap.le_trans R (Heap.le_trans A (Heap.le_trans G N))))
      refine Cj (gl.mono d) S ac W (M x) hm ?_
      intro A7 n7 c7 h7 y J
      have e7:aS z (g:Int)=r:=hr.symm
      rw [e7] at J
      have O:ZB m (r:Int):=x.le (by simpa using ak)
      refine ⟨_,_,_,_,rfl,Q3 (S.mono y) J W (M O) hm (by omega) ?_⟩
      intro s8 A8 n8 c8 h8 X i8
      refine ⟨_,_,_,_,rfl,X,Q3 (o.mono (Heap.le_trans d (Heap.le_trans y X))) (J.mono X) hq.den O (by omega) (by omega) ?_⟩
      intro s9 A9 n9 c9 h9 l9 i9
      rw [<- cL] at i9
      have ae:ZB m ((q.den/r:Nat):Int):=hq.den.le (by rw [aC,aC];exact aZ _ _)
      refine ⟨_,_,_,_,rfl,l9,L4 (ir.mono (Heap.le_trans A (Heap.le_trans G (Heap.le_trans N (Heap.le_trans y (Heap.le_trans X l9)))))) i9 t ae (by omega) ?_⟩
      intro au A10 ao aq am B ai
      refine ⟨_,_,_,_,rfl,B,S8 (q:=p+q) (i8.mono (Heap.le_trans l9 B)) ai c.1 (by rw [c.2,aP]) ?_⟩
      intro w iw
      exact ⟨_,_,_,_,_,_,_,_,rfl,B3 _,hK _ _ (Heap.le_trans d (Heap.le_trans y (Heap.le_trans X (Heap.le_trans l9 B)))) iw⟩
def A9w(gl:Gtz h)(i:RQ h a p)(j:RQ h b q)(hp:Sz m p)(hq:Sz m q)(hm:2*m+1<=6400000000)(hK:∀ w h',h.le h'->RQ h' w (p-q)->K w.v h'):aF prog B3s #[a.v,b.v] h K:=by
 refine C2c _ _ _ _ _ _ _ _ _ _ _ _ _ _ _ _ ?_
 unfold C6o
 refine Yi j ?_
 intro g e
 refine ⟨_,_,_,_,_,_,_,_,rfl,B3 _,Yl gl i e hp hq.neg hm ?_⟩
 intro f k c d
 rw [<- Rat.sub_eq_add_neg] at d
 exact ⟨_,_,_,_,_,_,_,_,rfl,c,hK _ _ c d⟩
end
structure Gl (h:aV):Prop where
 tz:Gtz h
 p10:Gp h
def Gl.mono{h h':aV}(g:Gl h)(l:h.le h'):Gl h':=⟨g.tz.mono l,g.p10.mono l⟩
section
variable {h h':aV} {K:VP} {A B:Option aO} {n c n' c':Nat} {s s':Bool} {x y z:Int} {m:Nat} {p q:Rat} {a b w:QV} {l:List UInt8}
def Yj(gl:Gtz h)(i:RQ h a p)(j:RQ h b q)(hp:Sz m p)(hq:Sz m q)(hm:m<=6400000000)(hK:∀ w h',h.le h'->RQ h' w (p*q)->K w.v h'):aF prog A8n #[a.v,b.v] h K:=by
 have E:=p.den_nz
 have V:=q.den_nz
 refine C2e _ _ _ _ _ _ _ _ _ _ _ _ _ _ _ _ ?_
 unfold C6q
 refine ⟨fun L hp=>L=[.bool (decide (p.num=0\/q.num=0))]/\hp=h,F9 i.num ⟨_,rfl,B6 (fun e=>?_) (fun e=>?_)⟩,?_⟩
 ·exact ⟨by simp [e],rfl⟩
 ·exact F9 j.num ⟨_,rfl,by simp [e],rfl⟩
 rintro s o ⟨u,rfl⟩
 obtain rfl:s=decide (p.num=0\/q.num=0):=by simpa using u
 refine B6 (fun e=>?_) (fun e=>?_)
 ·have:p*q=0:=by
   rw [cC,cC] at e
   exact Rat.mul_eq_zero.2 e
  rw [this] at hK
  exact hK ⟨false,none,0,0,false,none,0,0⟩ _ (B3 _) RQ.zero
 ·refine ⟨fun L hp=>L=[.bool (decide (p.den=1/\q.den=1))]/\hp=o,N7 i ⟨_,rfl,B6 (fun e=>?_) (fun e=>?_)⟩,?_⟩
  ·exact N7 j ⟨_,rfl,by simp [e],rfl⟩
  ·exact ⟨by simp [e],rfl⟩
  rintro y M ⟨u,rfl⟩
  obtain rfl:y=decide (p.den=1/\q.den=1):=by simpa using u
  refine B6 (fun e=>?_) (fun e=>?_)
  ·refine L4 i.num j.num hp.num hq.num hm ?_
   intro C A1 D c1 S d F
   refine ⟨_,_,_,_,rfl,hK ⟨C,A1,D,c1,false,none,0,0⟩ _ d ?_⟩
   have:=RQ.whole F
   rw [Rat.intCast_mul,<- Yt e.1,<- Yt e.2] at this
   exact this
  ·have g:=B38 p q
   refine Ej j ?_
   intro C A1 D c1 S d H
   refine ⟨_,_,_,_,rfl,d,Vz (gl.mono d) (i.num.mono d) H hp.num hq.den hm (by omega) ?_⟩
   intro s2 A2 n2 c2 s3 A3 n3 Z h2 A B r
   have c:=Heap.le_trans d A
   refine ⟨_,_,_,_,_,_,_,_,rfl,A,Ej (i.mono c) ?_⟩
   intro s4 A4 n4 c4 h4 f n
   refine ⟨_,_,_,_,rfl,f,Vz (gl.mono (Heap.le_trans c f)) (j.num.mono (Heap.le_trans c f)) n hq.num hp.den hm (by omega) ?_⟩
   intro s5 A5 n5 c5 X A6 n6 c6 h5 k z t
   have N:aS p.num (q.den:Int)=aQ p.num.natAbs q.den:=rfl
   have R:aS q.num (p.den:Int)=aQ q.num.natAbs p.den:=rfl
   rw [N] at B r
   rw [R] at z t
   rw [<- cL] at r t
   refine ⟨_,_,_,_,_,_,_,_,rfl,k,L4 (B.mono (Heap.le_trans f k)) z hp.num.tdiv hq.num.tdiv hm ?_⟩
   intro s7 A7 n7 W h7 l J
   have G:ZB m ((p.den/aQ q.num.natAbs p.den:Nat):Int):=hp.den.le (by rw [aC,aC];exact aZ _ _)
   have Q:ZB m ((q.den/aQ p.num.natAbs q.den:Nat):Int):=hq.den.le (by rw [aC,aC];exact aZ _ _)
   refine ⟨_,_,_,_,rfl,l,L4 (t.mono l) (r.mono (Heap.le_trans f (Heap.le_trans k l))) G Q hm ?_⟩
   intro s8 A8 n8 c8 h8 x O
   refine ⟨_,_,_,_,rfl,x,S8 (q:=p*q) (J.mono x) O g.1 (by rw [g.2,aP]) ?_⟩
   intro w T
   exact ⟨_,_,_,_,_,_,_,_,rfl,B3 _,hK _ _ (Heap.le_trans c (Heap.le_trans f (Heap.le_trans k (Heap.le_trans l x)))) T⟩
def A0f(i:RQ h w q)(hK:∀ w h',h.le h'->RQ h' w q⁻¹->K w.v h'):aF prog Qn #[w.v] h K:=by
 have n:=q.den_nz
 refine A7h _ _ _ _ _ _ _ _ ?_
 unfold A9c
 refine Eb i.num ⟨_,rfl,D8 (fun e=>?_) (fun e=>?_)⟩
 ·have c:q.num=0:=Int.sign_eq_zero_iff_zero.1 e
  have:q⁻¹=0:=by rw [Rat.num_eq_zero.1 c];exact Rat.inv_zero
  rw [this] at hK
  exact hK ⟨false,none,0,0,false,none,0,0⟩ _ (B3 _) RQ.zero
 ·have c:q.num≠0:=fun p=>e (by rw [p];rfl)
  refine D8 (fun g=>?_) (fun g=>?_)
  ·have k:q.num<0:=Int.sign_neg_iff.1 (by omega)
   refine Ej i ?_
   intro l A1 m c1 b a f
   refine ⟨_,_,_,_,rfl,a,T8 f ?_⟩
   intro t o
   refine ⟨_,_,_,_,rfl,B3 _,T8 (i.num.mono a) ?_⟩
   intro s r
   refine ⟨_,_,_,_,rfl,B3 _,S8 (q:=q⁻¹) o r ?_ ?_ ?_⟩
   ·rw [Rat.num_inv,g];omega
   ·rw [Rat.den_inv,iN c];omega
   ·intro w j
    exact ⟨_,_,_,_,_,_,_,_,rfl,B3 _,hK _ _ a j⟩
  ·have d:0<q.num:=by
    rcases Int.lt_trichotomy q.num 0 with b|b|b
    ·exact absurd (bN b) g
    ·exact absurd b c
    ·exact b
   refine Ej i ?_
   intro l A1 m c1 b a f
   refine ⟨_,_,_,_,rfl,a,S8 (q:=q⁻¹) f (i.num.mono a) ?_ ?_ ?_⟩
   ·rw [Rat.num_inv,aJ d,Int.one_mul]
   ·rw [Rat.den_inv,iN c];omega
   ·intro w j
    exact ⟨_,_,_,_,_,_,_,_,rfl,B3 _,hK _ _ a j⟩
def A9y(gl:Gtz h)(i:RQ h a p)(j:RQ h b q)(hp:Sz m p)(hq:Sz m q)(hm1:1<=m)(hm:m<=6400000000)(hK:∀ w h',h.le h'->RQ h' w (p/q)->K w.v h'):aF prog A8o #[a.v,b.v] h K:=by
 refine C2f _ _ _ _ _ _ _ _ _ _ _ _ _ _ _ _ ?_
 unfold C6r
 refine A0f j ?_
 intro k l c f
 refine ⟨_,_,_,_,_,_,_,_,rfl,c,Yj (gl.mono c) (i.mono c) f hp (hq.inv hm1) hm ?_⟩
 intro g n d e
 rw [<- Rat.div_def] at e
 exact ⟨_,_,_,_,_,_,_,_,rfl,d,hK _ _ (Heap.le_trans c d) e⟩
def Rr(i:RQ h w q)(hq:Sz m q)(hm:m+1<=6400000000)(hK:∀ s A n c h',h.le h'->ZI h' s A n c q.floor->K (.agg #[.bool s,.slice A n c]) h'):aF prog Tn #[w.v] h K:=by
 have f:=q.den_nz
 refine B5d _ _ _ _ _ _ _ _ ?_
 unfold B9v
 rw [Rat.floor_def] at hK
 refine N7 i ⟨_,rfl,B6 (fun e=>?_) (fun e=>?_)⟩
 ·rw [e] at hK
  exact hK _ _ _ _ _ (B3 _) (by simpa using i.num)
 ·have a:=i.den
  rw [iN e] at a
  refine Xe i.num a hq.num hq.den hm (by omega) ?_
  intro g A1 j c1 k d b
  exact ⟨_,_,_,_,rfl,hK _ _ _ _ _ d b⟩
def A9z(i:RQ h w q)(hq:Sz m q)(hm:m+1<=6400000000)(hK:∀ s A n c h',h.le h'->ZI h' s A n c q.ceil->K (.agg #[.bool s,.slice A n c]) h'):aF prog A6q #[w.v] h K:=by
 refine B8b _ _ _ _ _ _ _ _ ?_
 unfold C47
 refine Yi i ?_
 intro g d
 refine ⟨_,_,_,_,_,_,_,_,rfl,Rr d hq.neg hm ?_⟩
 intro j A2 f c2 l b e
 refine ⟨_,_,_,_,rfl,T8 e ?_⟩
 intro k a
 rw [<- dD] at a
 exact ⟨_,_,_,_,rfl,hK _ _ _ _ _ b a⟩
def B7r(p q:Rat):Int:=Ey (p.num*q.den) (q.num*p.den)
def B4c:B7r p q<0↔p<q:=by rw [aX];unfold B7r Ey;split<;>(try split)<;>omega
def C1q:0<B7r p q↔q<p:=by rw [aX];unfold B7r Ey;split<;>(try split)<;>omega
def B4d:B7r p q<=0↔p<=q:=by rw [<- Rat.not_lt,<- C1q];omega
def A0g(i:RQ h a p)(j:RQ h b q)(hp:Sz m p)(hq:Sz m q)(hm:2*m<=6400000000)(hK:K (I (B7r p q)) h):aF prog Qo #[a.v,b.v] h K:=by
 have n:=p.den_nz
 have x:=q.den_nz
 refine FCall.pure (A7i _ _ _ _ _ _ _ _ _ _ _ _ _ _ _ _ ?_)
 unfold A9d
 refine ⟨fun L hp=>L=[.bool (decide ((p.den=1/\q.den=1)\/p.num.sign≠q.num.sign))]/\hp=h,N7 i ⟨_,rfl,B3 _,B6 (fun e=>N7 j ⟨_,rfl,B3 _,B6 (fun k=>?_) (fun k=>?_)⟩) (fun e=>?_)⟩,?_⟩
 ·exact ⟨by simp [e,k],rfl⟩
 ·refine Fu i ⟨_,rfl,B3 _,Fu j ⟨_,rfl,B3 _,?_,rfl⟩⟩
  simp [k,bne]
  rw [bJ];simp
 ·refine Fu i ⟨_,rfl,B3 _,Fu j ⟨_,rfl,B3 _,?_,rfl⟩⟩
  simp [e,bne]
  rw [bJ];simp
 rintro g r ⟨u,rfl⟩
 obtain rfl:g=decide ((p.den=1/\q.den=1)\/p.num.sign≠q.num.sign):=by simpa using u
 refine B6 (fun e=>?_) (fun e=>?_)
 ·refine Mj i.num j.num hp.num hq.num (by omega) ⟨_,rfl,B3 _,?_⟩
  have:Ey p.num q.num=B7r p q:=by
   unfold B7r
   rcases e with e|e
   ·rw [e.1,e.2];simp
   ·exact (C0r (by omega) (by omega) e).symm
  rw [this];exact hK
 ·refine Ej j ?_
  intro E A1 G c1 N c o
  refine ⟨_,_,_,_,rfl,c,L4 (i.num.mono c) o hp.num hq.den (by omega) ?_⟩
  intro J A2 B c2 O d t
  refine ⟨_,_,_,_,rfl,d,Ej (i.mono (Heap.le_trans c d)) ?_⟩
  intro M A3 C y z f s
  refine ⟨_,_,_,_,rfl,f,L4 (j.num.mono (Heap.le_trans c (Heap.le_trans d f))) s hq.num hp.den (by omega) ?_⟩
  intro F A4 H D A l w
  refine ⟨_,_,_,_,rfl,l,Mj (m:=m+m) (t.mono (Heap.le_trans f l)) w (hp.num.mul hq.den) (hq.num.mul hp.den) (by omega) ⟨_,rfl,B3 _,?_⟩⟩
  exact ⟨Heap.le_trans c (Heap.le_trans d (Heap.le_trans f l)),hK⟩
def Ra{t:List UInt8}{k:Nat}(h:∀ c∈t,G9 c)(hk:t.length<=k):ZB (4*k) (J4 t:Int):=by
 unfold ZB
 rw [aC]
 exact aU (Cu h) (aM (by decide) (by omega))
def Form.lens{neg:Bool}{a b:List UInt8}(f:Form l neg a b):a.length<=l.length/\b.length<=l.length:=by
 have:=congrArg List.length f.eq
 simp only [aL] at this
 by_cases c:b=[]
 ·rw [iP c] at this;subst c;simp at this ⊢;omega
 ·rw [iN c] at this;simp at this;omega
def Yk(gl:Gtz h)(hl:l.length<=100000000)(hK1:∀ q,l=I9 q->∀ w h',h.le h'->RQ h' w q->K (.tuple #[w.v,.bool true]) h')(hK0:¬ IsNum l->∀ (w:QV) h',h.le h'->RQ h' w 0->K (.tuple #[w.v,.bool false]) h'):aF prog A16 #[.string (bs l)] h K:=by
 refine B88 _ ?_
 unfold C44
 refine Py (by omega) ?_ ?_
 ·intro neg a b f
  refine ⟨_,_,_,_,rfl,O9 ?_⟩
  have D:=f.lens
  refine Jt f.da (by omega) ?_
  intro A1 G c1 J s C
  refine ⟨_,_,_,_,rfl,?_⟩
  refine ⟨fun L R=>∃ o:Bool,L=[.bool o,.slice A1 G c1,.bool false,.slice none 0 0]/\R=J/\ZI J o A1 G c1 (Sd neg a),Br.of (fun e=>?_) (fun e=>?_),?_⟩
  ·refine T8 C ?_
   intro o i
   exact ⟨_,_,_,_,rfl,o,rfl,rfl,by unfold Sd;rw [e];exact i⟩
  ·exact ⟨false,rfl,rfl,by unfold Sd;rw [e];exact C⟩
  rintro M g n j x2 S W Z aa ⟨o,H,rfl,i⟩
  simp only [aD,aN,Value.bool.injEq,and_true] at H
  obtain ⟨rfl,⟨rfl,rfl,rfl⟩,rfl,rfl,rfl,rfl⟩:=H
  have c:(Sd neg a).natAbs=J4 a:=by unfold Sd;split<;>simp
  rw [Y2]
  refine B6 (fun t=>?_) (fun t=>?_)
  ·subst t
   obtain ⟨q,m⟩:=f.isNum.2 (by unfold Mi;simp)
   obtain ⟨B,u⟩:=f.of_txt m
   refine hK1 q m ⟨M,g,n,j,false,none,0,0⟩ _ s ⟨by rw [B];exact i,?_⟩
   rw [u,show Mi []=1 from rfl,iP rfl];exact ZI.zero
  ·refine Jt f.db (by omega) ?_
   intro A4 V T h4 p O
   have z:ZB (4*l.length) (Sd neg a):=(Ra f.da (k:=l.length) (by omega)).le (by rw [c,aC];exact bB _)
   refine ⟨_,_,_,_,rfl,Cj (gl.mono (Heap.le_trans s p)) (i.mono p) O z (Ra f.db (k:=l.length) (by omega)) (by omega) ?_⟩
   intro A5 n5 c5 h5 r Q
   refine ⟨_,_,_,_,rfl,Q4 Q ⟨_,rfl,?_⟩⟩
   have d:Mi b=J4 b:=by unfold Mi;rw [iN t]
   have x:aS (Sd neg a) (J4 b:Int)=aQ (J4 a) (Mi b):=by
    rw [d];show aQ (Sd neg a).natAbs (J4 b)=_;rw [c]
   rw [x]
   refine O9 (B6 (fun F=>?_) (fun F=>?_))
   ·obtain ⟨q,m⟩:=f.isNum.2 (by omega)
    obtain ⟨B,u⟩:=f.of_txt m
    have y:Mi b≠1:=by
     intro X
     have E:=Ow f.db t (.inl f.hb)
     rw [<- d,X] at E
     apply f.b1
     rw [<- E];simp [N8,T6,I8,dch]
    refine hK1 q m ⟨M,g,n,j,false,A4,V,T⟩ _ (Heap.le_trans s (Heap.le_trans p r)) ⟨by rw [B];exact i.mono (Heap.le_trans p r),?_⟩
    rw [u,iN y,d];exact O.mono r
   ·refine hK0 ?_ ⟨false,none,0,0,false,none,0,0⟩ _ (Heap.le_trans s (Heap.le_trans p r)) RQ.zero
    intro A
    exact F (by rw [f.isNum.1 A];rfl)
 ·intro hf neg a b
  refine ⟨_,_,_,_,rfl,O9 ?_⟩
  refine hK0 ?_ ⟨false,none,0,0,false,none,0,0⟩ _ (B3 _) RQ.zero
  intro A
  obtain ⟨N,a',b',f⟩:=A.form
  exact hf _ _ _ f
def L0(gl:Gtz h)(hl:l.length<=100000000)(hK:∀ w h',h.le h'->RQ h' w (rv l)->K w.v h'):aF prog N3 #[.string (bs l)] h K:=by
 refine B51 _ ?_
 unfold B9p
 refine Yk gl hl ?_ ?_
 ·intro q e w a c b
  exact ⟨_,_,_,_,_,_,_,_,_,rfl,hK w a c (by rw [e,D9];exact b)⟩
 ·intro d w a c b
  exact ⟨_,_,_,_,_,_,_,_,_,rfl,hK w a c (by rw [A84 d];exact b)⟩
def T2(gp:Gp h)(i:RQ h w q)(hq:Sz m q)(hm:m<=40000000)(hK:K (.string (bs (I9 q))) h):aF prog V3 #[w.v] h K:=by
 refine FCall.pure (B0v _ _ _ _ _ _ _ _ ?_)
 unfold B5a
 refine N7 i ⟨_,rfl,B6 (fun e=>?_) (fun e=>?_)⟩
 ·rw [A02 e] at hK
  refine A5j i.num (fun g o=>?_) (fun g=>?_)
  ·refine ⟨_,_,rfl,Br.of (fun _=>A7e _ ?_) (fun e=>by cases e)⟩
   unfold A9a
   exact Kj gp g o ⟨_,rfl,_,rfl,B3 _,hK⟩
  ·refine ⟨_,_,rfl,Br.of (fun e=>by cases e) (fun _=>?_)⟩
   exact Hn gp i.num hq.num (by omega) ⟨_,rfl,B3 _,hK⟩
 ·rw [A2r e] at hK
  have c:=i.den
  rw [iN e] at c
  refine Hp (l:=[]) (eT:=F8) gp (Priv.nil _ _ _ _) i.num hq.num (by omega) (by omega) ?_
  intro A1 B c1 z u g f
  refine ⟨_,_,_,rfl,?_⟩
  have p:(Hl q.num).length<=50000000:=by
   unfold Hl
   have:=Cv hq.num
   split<;>simp<;>omega
  have r:=f.len
  refine Fx (ch:=47) rfl f.priv (by omega) ?_
  intro A2 x c2 D A o k
  have b:=f.trans k
  have d:=b.len
  rw [aL,cK] at d
  refine Hp (gp.mono b.le) k.priv (c.mono b.le) hq.den (by omega) (by omega) ?_
  intro A3 y s C E t n
  refine ⟨_,_,_,rfl,?_⟩
  rw [aR] at n
  have a:=b.trans n
  have j:=a.len
  refine Jq Eg.und Cm T1 a.priv.slV (by simpa using j) ⟨_,rfl,?_⟩
  refine ⟨Heap.le_trans a.le a.priv.le,?_⟩
  simpa using hK
end
structure Tx (m:Nat) (l:List UInt8):Prop where
 len:l.length<=100000000
 sz:Sz m (rv l)
def B6i{m:Nat}{z:Int}(h:ZB m z):(Hl z).length<=m+2:=by
 have:=Cv h
 unfold Hl;split
 ·rw [cT];omega
 ·omega
def Mz{m:Nat}{q:Rat}(h:Sz m q):(I9 q).length<=2*m+4:=by
 have a:=B6i h.num
 have b:=Cv (n:=q.den) (m:=m) (by have:=h.den;unfold ZB at this;simpa using this)
 unfold I9
 split
 ·simp;omega
 ·simp;omega
def Tx.of{m:Nat}{q:Rat}(h:Sz m q)(hm:m<=40000000):Tx m (I9 q):=⟨by have:=Mz h;omega,by rw [D9];exact h⟩
def Ha{x y:Int}(hx:x.natAbs<1000000000)(hy:y.natAbs<1000000000):(x*y).natAbs<1000000000000000000:=by
 rw [Int.natAbs_mul]
 exact Nat.mul_lt_mul'' hx hy
def A2q(q:Rat):∃ c r,I9 q=c::r/\(c=45↔q<0):=by
 have f:=Hw q
 have a:I9 q≠[]:=by
  intro e
  have:=f.eq
  rw [e] at this
  have d:=f.ne
  have:=congrArg List.length this
  simp only [aL,List.length_nil] at this
  exact d (bG (by omega))
 obtain ⟨c,r,e⟩:=aY a
 refine ⟨c,r,e,?_⟩
 have b:=f.head
 rw [e,cG,bJ,decide_eq_true_iff,beq_iff_eq,aW] at b
 rw [<- b,aX];simp
def A7x{q:Rat}(h:q<0):I9 q=45::I9 (-q):=by
 have a:q.num<0:=by have:=(aX q 0).1 h;simpa using this
 unfold I9
 rw [Rat.neg_num,Rat.neg_den,Th a,Jp (i:= -q.num) (by omega),Int.natAbs_neg];simp
def C5x:rv [48]=0:=by
 have:[48]=I9 0:=by simp [I9,Hl,N8]
 rw [this,D9]
def B1t:I9 0=[48]:=by simp [I9,Hl,N8]
def Tl{m:Nat}{q:Rat}(h:Sz m q):ZB m q.floor:=by
 rw [Rat.floor_def]
 exact h.num.le (Int.natAbs_ediv_le_natAbs _ _)
section
variable {h:aV} {K:VP} {m:Nat} {a b:List UInt8}
def By(gl:Gl h)(hl:a.length<=100000000)(hK1:IsNum a->K (.bool true) h)(hK0:¬ IsNum a->K (.bool false) h):aF prog Dd #[.string (bs a)] h K:=by
 refine FCall.pure (B52 _ ?_)
 unfold B9q
 refine Dr ?_ ?_
 ·intro q e _ _
  exact ⟨_,_,_,rfl,Br.of (fun _=>⟨B3 _,hK1 ⟨q,e⟩⟩) (fun e=>by cases e)⟩
 ·refine ⟨_,_,_,rfl,Br.of (fun e=>by cases e) (fun _=>?_)⟩
  refine Py (by omega) ?_ ?_
  ·intro neg x y f
   refine ⟨_,_,_,_,rfl,Br.of (fun e=>by cases e) (fun _=>?_)⟩
   have j:=f.lens
   rw [Y2]
   refine B6 (fun e=>?_) (fun e=>?_)
   ·subst e
    exact ⟨B3 _,hK1 (f.isNum.2 (by unfold Mi;simp))⟩
   ·refine Jt f.da (by omega) ?_
    intro A1 B c1 C g n
    refine ⟨_,_,_,_,rfl,g,Jt f.db (by omega) ?_⟩
    intro A2 w c2 D c p
    refine ⟨_,_,_,_,rfl,c,Cj (gl.tz.mono (Heap.le_trans g c)) (n.mono c) p (Ra f.da (k:=a.length) (by omega)) (Ra f.db (k:=a.length) (by omega)) (by omega) ?_⟩
    intro A3 z s t l o
    refine ⟨_,_,_,_,rfl,l,Q4 o ⟨_,rfl,B3 _,Heap.le_trans g (Heap.le_trans c l),?_⟩⟩
    rw [dK]
    have b:Mi y=J4 y:=by unfold Mi;rw [iN e]
    by_cases d:aQ (J4 x) (J4 y)=1
    ·rw [decide_eq_true (by rw [d];rfl)]
     exact hK1 (f.isNum.2 (by rw [b];exact d))
    ·rw [decide_eq_false (by omega)]
     exact hK0 (fun i=>d (by rw [<- b];exact f.isNum.1 i))
  ·intro r neg x y
   refine ⟨_,_,_,_,rfl,Br.of (fun _=>⟨B3 _,hK0 ?_⟩) (fun e=>by cases e)⟩
   intro i
   obtain ⟨m,u,A,f⟩:=i.form
   exact r _ _ _ f
def C0t{q:Rat}(hq:q≠0)(hneg:¬ q<0):q.num.sign=1:=by
 have a:¬ q.num<0:=fun e=>hneg (by rw [aX];simpa using e)
 have b:q.num≠0:=fun e=>hq (Rat.num_eq_zero.1 e)
 exact aJ (by omega)
def Ca(gl:Gl h)(hl:a.length<=100000000)(hK:K (I (rv a).num.sign) h):aF prog Vl #[.string (bs a)] h K:=by
 refine B87 _ ?_
 unfold C43
 have f:((bs a).toList==({ data:=#[48] }:ByteArray).toList)=decide (a=[48]):=Kn a [48]
 rw [f]
 refine B6 (fun e=>?_) (fun e=>?_)
 ·subst e;rw [C5x] at hK;exact hK
 ·refine By gl hl ?_ ?_
  ·rintro ⟨q,rfl⟩
   rw [D9] at hK
   have d:q≠0:=by rintro rfl;exact e B1t
   obtain ⟨c,r,k,g⟩:=A2q q
   refine ⟨_,rfl,O9 ?_⟩
   refine ⟨c,⟨by omega,by rw [Is,k];rfl⟩,D8 (fun i=>?_) (fun i=>?_)⟩
   ·have b:c=45:=by apply UInt8.toNat_inj.1;show c.toNat=45;omega
    have:=(aX q 0).1 (g.1 b)
    rw [bN (by simpa using this)] at hK
    exact hK
   ·have b:¬ q<0:=fun l=>i (by rw [g.2 l];rfl)
    rw [C0t d b] at hK
    exact hK
  ·intro j
   rw [A84 j] at hK
   exact ⟨_,rfl,O9 hK⟩
def Ug(gl:Gl h)(hl:a.length<=100000000)(hK:K (.string (bs (I9 (-rv a)))) h):aF prog A48 #[.string (bs a)] h K:=by
 refine C25 _ ?_
 unfold C6j
 have g:((bs a).toList==({ data:=#[48] }:ByteArray).toList)=decide (a=[48]):=Kn a [48]
 rw [g]
 refine B6 (fun e=>?_) (fun e=>?_)
 ·subst e;rw [C5x,Rat.neg_zero,B1t] at hK;exact hK
 ·refine By gl hl ?_ ?_
  ·rintro ⟨q,rfl⟩
   rw [D9] at hK
   have f:q≠0:=by rintro rfl;exact e B1t
   obtain ⟨c,r,m,i⟩:=A2q q
   refine ⟨_,rfl,O9 ?_⟩
   refine ⟨c,⟨by omega,by rw [Is,m];rfl⟩,D8 (fun j=>?_) (fun j=>?_)⟩
   ·have d:c=45:=by apply UInt8.toNat_inj.1;show c.toNat=45;omega
    have b:=A7x (i.1 d)
    rw [b,H9]
    refine ⟨⟨by omega,by simp;omega⟩,?_⟩
    rw [L3,show ((1:Int)).toNat=1 from rfl,bC (by simp),List.drop_succ_cons,bM]
    exact hK
   ·have d:¬ q<0:=fun n=>j (by rw [i.2 n];rfl)
    have k: -q<0:=by
     have:0<q:=Rat.lt_of_le_of_ne (Rat.not_lt.1 d) (Ne.symm f)
     grind
    rw [A7x k,Rat.neg_neg] at hK
    refine ⟨?_,?_⟩
    ·show (((bs [45]).size+(bs (I9 q)).size:Nat):Int)<=_
     rw [H9,H9];simp;omega
    ·show K (.string (bs [45]++bs (I9 q))) h
     rw [It];exact hK
  ·intro l
   rw [A84 l,Rat.neg_zero,B1t] at hK
   exact ⟨_,rfl,O9 hK⟩
def Nb(gl:Gl h)(ta:Tx m a)(tb:Tx m b)(hm:2*m<=6400000000)(hK:K (I (B7r (rv a) (rv b))) h):aF prog Jy #[.string (bs a),.string (bs b)] h K:=by
 refine FCall.pure (A7f _ _ ?_)
 unfold A9b
 refine Ac ?_ ?_
 ·intro p q k j f g i o
  rw [k,j,D9,D9] at hK
  refine ⟨_,_,_,_,_,rfl,Br.of (fun _=>Wt _ _ ?_) (fun e=>by cases e)⟩
  unfold Sm
  have u:=Ha f (show ((q.den:Nat):Int).natAbs<1000000000 by simpa using o)
  have t:=Ha i (show ((p.den:Nat):Int).natAbs<1000000000 by simpa using g)
  rw [B7 (by omega) (by omega),B7 (by omega) (by omega)]
  exact B4f ⟨_,rfl,_,rfl,B3 _,hK⟩
 ·refine ⟨_,_,_,_,_,rfl,Br.of (fun e=>by cases e) (fun _=>?_)⟩
  refine L0 gl.tz ta.len ?_
  intro s f d l
  refine ⟨_,_,_,_,_,_,_,_,rfl,L0 (gl.tz.mono d) tb.len ?_⟩
  intro r g c n
  refine ⟨_,_,_,_,_,_,_,_,rfl,A0g (l.mono c) n ta.sz tb.sz hm ⟨_,rfl,Heap.le_trans d c,hK⟩⟩
def A2z(gl:Gl h)(ta:Tx m a)(tb:Tx m b)(hm:2*m+1<=40000000)(hK:K (.string (bs (I9 (rv a+rv b)))) h):aF prog A8l #[.string (bs a),.string (bs b)] h K:=by
 refine FCall.pure (C29 _ _ ?_)
 unfold C6n
 refine Ac ?_ ?_
 ·intro p q r t k g i j
  rw [r,t,D9,D9,Fd] at hK
  refine ⟨_,_,_,_,_,rfl,Br.of (fun _=>?_) (fun e=>by cases e)⟩
  have w:=Ha k (show ((q.den:Nat):Int).natAbs<1000000000 by simpa using j)
  have y:=Ha i (show ((p.den:Nat):Int).natAbs<1000000000 by simpa using g)
  have A:=Ha (show ((p.den:Nat):Int).natAbs<1000000000 by simpa using g) (show ((q.den:Nat):Int).natAbs<1000000000 by simpa using j)
  rw [B7 (n:=p.num*q.den) (by omega) (by omega),B7 (n:=q.num*p.den) (by omega) (by omega),B7 (n:=(p.den:Int)*q.den) (by omega) (by omega),B7 (by omega) (by omega)]
  exact S5 gl.p10 (cH (dE p) (dE q)) (by omega) (by omega) ⟨_,rfl,B3 _,hK⟩
 ·refine ⟨_,_,_,_,_,rfl,Br.of (fun e=>by cases e) (fun _=>?_)⟩
  refine L0 gl.tz ta.len ?_
  intro z k f l
  refine ⟨_,_,_,_,_,_,_,_,rfl,L0 (gl.tz.mono f) tb.len ?_⟩
  intro x g d s
  refine ⟨_,_,_,_,_,_,_,_,rfl,Yl (gl.tz.mono (Heap.le_trans f d)) (l.mono d) s ta.sz tb.sz (by omega) ?_⟩
  intro B i u o
  have c:=Heap.le_trans f (Heap.le_trans d u)
  exact ⟨_,_,_,_,_,_,_,_,rfl,T2 (gl.p10.mono c) o (ta.sz.add tb.sz) (by omega) ⟨_,rfl,c,hK⟩⟩
def Uf(gl:Gl h)(ta:Tx m a)(tb:Tx m b)(hm:2*m+1<=40000000)(hK:K (.string (bs (I9 (rv a-rv b)))) h):aF prog A47 #[.string (bs a),.string (bs b)] h K:=by
 refine FCall.pure (C24 _ _ ?_)
 unfold C6i
 refine Ac ?_ ?_
 ·intro p q s u k g i j
  have o:p-q=bL (p.num*q.den-q.num*p.den) (p.den*q.den):=by
   rw [Rat.sub_eq_add_neg,Fd,Rat.neg_num,Rat.neg_den,Int.neg_mul,<- Int.sub_eq_add_neg]
  rw [s,u,D9,D9,o] at hK
  refine ⟨_,_,_,_,_,rfl,Br.of (fun _=>?_) (fun e=>by cases e)⟩
  have x:=Ha k (show ((q.den:Nat):Int).natAbs<1000000000 by simpa using j)
  have z:=Ha i (show ((p.den:Nat):Int).natAbs<1000000000 by simpa using g)
  have B:=Ha (show ((p.den:Nat):Int).natAbs<1000000000 by simpa using g) (show ((q.den:Nat):Int).natAbs<1000000000 by simpa using j)
  rw [B7 (n:=p.num*q.den) (by omega) (by omega),B7 (n:=q.num*p.den) (by omega) (by omega),B7 (n:=(p.den:Int)*q.den) (by omega) (by omega),B7 (by omega) (by omega)]
  exact S5 gl.p10 (cH (dE p) (dE q)) (by omega) (by omega) ⟨_,rfl,B3 _,hK⟩
 ·refine ⟨_,_,_,_,_,rfl,Br.of (fun e=>by cases e) (fun _=>?_)⟩
  refine L0 gl.tz ta.len ?_
  intro A k f l
  refine ⟨_,_,_,_,_,_,_,_,rfl,L0 (gl.tz.mono f) tb.len ?_⟩
  intro y g d t
  refine ⟨_,_,_,_,_,_,_,_,rfl,A9w (gl.tz.mono (Heap.le_trans f d)) (l.mono d) t ta.sz tb.sz (by omega) ?_⟩
  intro C i w r
  have c:=Heap.le_trans f (Heap.le_trans d w)
  exact ⟨_,_,_,_,_,_,_,_,rfl,T2 (gl.p10.mono c) r (ta.sz.sub tb.sz) (by omega) ⟨_,rfl,c,hK⟩⟩
def B1x(gl:Gl h)(ta:Tx m a)(tb:Tx m b)(hm:2*m<=40000000)(hK:K (.string (bs (I9 (rv a*rv b)))) h):aF prog B3q #[.string (bs a),.string (bs b)] h K:=by
 refine FCall.pure (C26 _ _ ?_)
 unfold C6k
 refine Ac ?_ ?_
 ·intro p q o l i j g r
  rw [o,l,D9,D9,Ju] at hK
  refine ⟨_,_,_,_,_,rfl,Br.of (fun _=>?_) (fun e=>by cases e)⟩
  have z:=Ha i g
  have y:=Ha (show ((p.den:Nat):Int).natAbs<1000000000 by simpa using j) (show ((q.den:Nat):Int).natAbs<1000000000 by simpa using r)
  rw [B7 (n:=p.num*q.num) (by omega) (by omega),B7 (n:=(p.den:Int)*q.den) (by omega) (by omega)]
  exact S5 gl.p10 (cH (dE p) (dE q)) (by omega) (by omega) ⟨_,rfl,B3 _,hK⟩
 ·refine ⟨_,_,_,_,_,rfl,Br.of (fun e=>by cases e) (fun _=>?_)⟩
  refine L0 gl.tz ta.len ?_
  intro x i f k
  refine ⟨_,_,_,_,_,_,_,_,rfl,L0 (gl.tz.mono f) tb.len ?_⟩
  intro w j d s
  refine ⟨_,_,_,_,_,_,_,_,rfl,Yj (gl.tz.mono (Heap.le_trans f d)) (k.mono d) s ta.sz tb.sz (by omega) ?_⟩
  intro A g t u
  have c:=Heap.le_trans f (Heap.le_trans d t)
  exact ⟨_,_,_,_,_,_,_,_,rfl,T2 (gl.p10.mono c) u (ta.sz.mul tb.sz) (by omega) ⟨_,rfl,c,hK⟩⟩
def B20(gl:Gl h)(ta:Tx m a)(tb:Tx m b)(hm1:1<=m)(hm:2*m<=40000000)(hK1:rv b≠0->K (.tuple #[.string (bs (I9 (rv a/rv b))),.bool true]) h)(hK0:rv b=0->K (.tuple #[.string (bs []),.bool false]) h):aF prog B3r #[.string (bs a),.string (bs b)] h K:=by
 refine FCall.pure (C28 _ _ ?_)
 unfold C6m
 have c:∀ g,g=h->aF prog N3 #[.string (bs b)] g (fun O x=>∃ (t350:Bool) (t351A:Option aO) (t351n:Nat) (t351c:Nat) (t352:Bool) (t353A:Option aO) (t353n:Nat) (t353c:Nat),O= .agg #[.bool t350,.slice t351A t351n t351c,.bool t352,.slice t353A t353n t353c]/\aF prog Og #[.agg #[.bool t350,.slice t351A t351n t351c,.bool t352,.slice t353A t353n t353c]] x (fun Q k=>∃ (t37:Bool),Q= .bool t37/\Br t37 (h.le k/\K (.tuple #[.string ({ data:=#[] }:ByteArray),.bool false]) h)
  (aF prog N3 #[.string (bs a)] k (fun N i=>∃ (t390:Bool) (t391A:Option aO) (t391n:Nat) (t391c:Nat) (t392:Bool) (t393A:Option aO) (t393n:Nat) (t393c:Nat),N= .agg #[.bool t390,.slice t391A t391n t391c,.bool t392,.slice t393A t393n t393c]/\Heap.le k i/\aF prog A8o #[.agg #[.bool t390,.slice t391A t391n t391c,.bool t392,.slice t393A t393n t393c],.agg #[.bool t350,.slice t351A t351n t351c,.bool t352,.slice t353A t353n t353c]] i (fun R f=>∃ (t410:Bool) (t411A:Option aO) (t411n:Nat) (t411c:Nat) (t412:Bool) (t413A:Option aO) (t413n:Nat) (t413c:Nat),R= .agg #[.bool t410,.slice t411A t411n t411c,.bool t412,.slice t413A t413n t413c]/\Heap.le i f/\aF prog V3 #[.agg #[.bool t410,.slice t411A t411n t411c,.bool t412,.slice t413A t413n t413c]] f (fun H r=>∃ (t42:ByteArray),H= .string t42/\Heap.le f r/\(h.le r/\K (.tuple #[.string t42,.bool true]) h))))))):=by
  rintro g rfl
  refine L0 gl.tz tb.len ?_
  intro V B t z
  refine ⟨_,_,_,_,_,_,_,_,rfl,A3c z ⟨_,rfl,B6 (fun e=>⟨t,hK0 e⟩) (fun e=>?_)⟩⟩
  refine L0 (gl.tz.mono t) ta.len ?_
  intro T E s J
  refine ⟨_,_,_,_,_,_,_,_,rfl,s,A9y (gl.tz.mono (Heap.le_trans t s)) J (z.mono s) ta.sz tb.sz hm1 (by omega) ?_⟩
  intro X y C F
  have o:=Heap.le_trans t (Heap.le_trans s C)
  exact ⟨_,_,_,_,_,_,_,_,rfl,C,T2 (gl.p10.mono o) F (ta.sz.div tb.sz hm1) (by omega) ⟨_,rfl,B3 _,o,hK1 e⟩⟩
 refine Ac ?_ ?_
 ·intro p q M A B E y G
  refine ⟨_,_,_,_,_,rfl,fun L g=>L=[.bool (decide (q.num≠0))]/\g=h,Br.of (fun _=>⟨?_,rfl⟩) (fun e=>by cases e),?_⟩
  ·by_cases l:q.num=0<;>simp [l,bne]
  rintro j d ⟨w,rfl⟩
  obtain rfl:j=decide (q.num≠0):=by simpa using w
  refine B6 (fun l=>?_) (fun l=>c d rfl)
  have u:rv b≠0:=by rw [A,D9];exact fun e=>l (Rat.num_eq_zero.2 e)
  have D:=hK1 u
  rw [M,A,D9,D9,Yv] at D
  have S:=Ha B (show ((q.den:Nat):Int).natAbs<1000000000 by simpa using G)
  have W:=Ha (show ((p.den:Nat):Int).natAbs<1000000000 by simpa using E) y
  rw [B7 (n:=p.num*q.den) (by omega) (by omega),B7 (n:=(p.den:Int)*q.num) (by omega) (by omega)]
  exact S5 gl.p10 (cH (dE p) l) (by omega) (by omega) ⟨_,rfl,B3 _,D⟩
 ·refine ⟨_,_,_,_,_,rfl,fun L g=>L=[.bool false]/\g=h,Br.of (fun e=>by cases e) (fun _=>⟨rfl,rfl⟩),?_⟩
  rintro j d ⟨w,rfl⟩
  obtain rfl:j=false:=by simpa using w
  exact Br.of (fun e=>by cases e) (fun _=>c d rfl)
def A5u(gl:Gl h)(ta:Tx m a)(hm:m+1<=40000000)(hK:K (.string (bs (Hl (rv a).floor))) h):aF prog A17 #[.string (bs a)] h K:=by
 refine FCall.pure (B56 _ ?_)
 unfold B9t
 refine L0 gl.tz ta.len ?_
 intro g j c d
 refine ⟨_,_,_,_,_,_,_,_,rfl,Rr d ta.sz (by omega) ?_⟩
 intro i A2 f c2 k b e
 exact ⟨_,_,_,_,rfl,Hn (m:=m) (gl.p10.mono (Heap.le_trans c b)) e (Tl ta.sz) (by omega) ⟨_,rfl,Heap.le_trans c b,hK⟩⟩
def A9s(gl:Gl h)(ta:Tx m a)(hm:m+1<=40000000)(hK:K (.string (bs (Hl (rv a).ceil))) h):aF prog A6p #[.string (bs a)] h K:=by
 refine FCall.pure (B89 _ ?_)
 unfold C45
 refine L0 gl.tz ta.len ?_
 intro g j c d
 refine ⟨_,_,_,_,_,_,_,_,rfl,A9z d ta.sz (by omega) ?_⟩
 intro i A2 f c2 k b e
 refine ⟨_,_,_,_,rfl,Hn (m:=m) (gl.p10.mono (Heap.le_trans c b)) e ?_ (by omega) ⟨_,rfl,Heap.le_trans c b,hK⟩⟩
 rw [dD]
 exact (Tl ta.sz.neg).neg
end
def C70(h:aV)(r:Value)(h':aV):Prop:=r= .bool true/\h.le h'
def C55{x:List UInt8}{k:Nat}(hl:x.length<=k)(hk:1<=k):Sz (4*k) (rv x):=by
 by_cases d:IsNum x
 ·obtain ⟨neg,a,b,f⟩:=d.form
  obtain ⟨g,i⟩:=f.rv_num d
  have e:=f.lens
  have c:(Sd neg a).natAbs=J4 a:=by unfold Sd;split<;>simp
  refine ⟨?_,?_⟩
  ·rw [g];exact (Ra f.da (k:=k) (by omega)).le (by rw [c,aC];exact bB _)
  ·rw [i]
   unfold Mi
   split
   ·exact ZB.one (by omega)
   ·exact Ra f.db (by omega)
 ·rw [A84 d];exact Sz.zero (by omega)
end Go.Proofs.YtmbfcbbkbefgfaaGreatDoor
namespace Go.Proofs.YtmbfcbbkbefgfaaGreatDoor
set_option maxRecDepth 20000
open Go Go.RowKit
def memOf(W:World):aV:=fun b=>W.heap[b]?
def frame_of{P:Program}{f:FuncId}{args:Array Value}{W:World}(x:aF P f args (memOf W) (C70 (memOf W))):Calls P f args W fun e w'=>e= .returned (.bool true)/\Below W.heap.size W w':=by
 refine (x W (fun b o e=>e)).mono ?_
 rintro e W' ⟨r,l,i,⟨j,c⟩,a⟩
 subst j
 refine ⟨i,a.os,a.tape,a.output,a.size,fun k g=>?_⟩
 have d:memOf W k=some W.heap[k]:=Array.getElem?_eq_getElem g
 have:=a.sim k _ (c k _ d)
 rw [this];exact d.symm
def Qi{W:World}{a:aO}{v:Value}(e:W.cell? a=some v):(memOf W).cell? a=some v:=by
 unfold World.cell? at e
 unfold Heap.cell? memOf
 exact e
def A8i{P:Program}{W:World}{x:String × DataW Unit}{rest:List (String × DataW Unit)}(h:laidMet P (x::rest) W):laidMet P rest W:=by
 obtain ⟨n,d⟩:=x
 obtain ⟨m,⟨g,t,k,c,p,q,o,r,l,s,j,rfl⟩,e,f⟩:=h
 exact ⟨q,j,(List.nodup_append.1 e).2.1,fun b a i=>f b a (List.mem_append_right _ i)⟩
def C52:List Int:=[0,1,28,2,29,14,24,3,30,22,20,15,25,17,4,8,31,27,13,23,21,19,16,7,26,12,18,6,11,5,10,9]
def B6p:List Int:=[0,1,56,2,57,49,28,3,61,58,42,50,38,29,17,4,62,47,59,36,45,43,51,22,53,39,33,30,24,18,12,5,63,55,48,27,60,41,37,16,46,35,44,21,52,32,23,11,54,26,40,15,34,20,31,10,25,14,19,9,13,8,7,6]
def C0n:List Int:=[1,10,100,1000,10000,100000,1000000,10000000,100000000,1000000000,10000000000,100000000000,1000000000000,10000000000000,100000000000000,1000000000000000,10000000000000000,100000000000000000,1000000000000000000,10000000000000000000]
def B9a:prog.globalNamed "math/bits.deBruijn64tab" = some 0:=by kernel_rfl
def B9b:prog.globalNamed "internal/strconv.uint64pow10" = some 3:=by kernel_rfl
def tabs_gl{W:World}(h:laidMet prog [("math/bits.deBruijn32tab",Rows.laid_math_bits_deBruijn32tab),("math/bits.deBruijn64tab",Rows.laid_math_bits_deBruijn64tab),("internal/strconv.uint64pow10",Rows.laid_internal_strconv_uint64pow10)] W):Gl (memOf W):=by
 have i:=A8i h
 have j:=A8i i
 have f:Lib.TabIs prog W "math/bits.deBruijn64tab" .u8 B6p:=Lib.tabIs_of_head (rest:=[("internal/strconv.uint64pow10",Rows.laid_internal_strconv_uint64pow10)]) B9a (by kernel_rfl) underlying354 underlying5 (by kernel_rfl) (by kernel_rfl) i
 have d:Lib.TabIs prog W "internal/strconv.uint64pow10" .u64 C0n:=Lib.tabIs_of_head (rest:=[]) B9b (by kernel_rfl) underlying358 underlying270 (by kernel_rfl) (by kernel_rfl) j
 have g:∀ k,k<64->A2p k<B6p.length/\B6p.getD (A2p k) 0=(k:Int):=by decide +kernel
 have e:∀ k,k<20->C0n.getD k 0=((10^k:Nat):Int):=by decide +kernel
 refine ⟨fun k c=>?_,fun k c=>?_⟩
 ·obtain ⟨a,b⟩:=g k c
  have:=Qi (f.cell B9a (A2p k) a)
  rw [E6,bU,dL,this,b]
 ·have:=Qi (d.cell B9b k (by show k<20;exact c))
  rw [E6,bU,dL,this,e k c]
def B3f(zs:List Int)(k:IntKind):Obj->Obj
 | .cells _ t frozen=>.cells (zs.map (bW k)).toArray t frozen
 | o=>o
def layTabs(a:Array Obj):Array Obj:=((a.modify 4 (B3f C52 .u8)).modify 0 (B3f B6p .u8)).modify 3 (B3f C0n .u64)
