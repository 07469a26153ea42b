/- A part. -/
import Derived.Test.YtmbfcbbkbefgfaaGreatDoorG20
import Derived.Test.YtmbfcbbkbefgfaaGreatDoorG09
import Derived.Test.YtmbfcbbkbefgfaaGreatDoorRows
import Derived.Lib.LaidTab
open Go.Proofs.Tryz
set_option linter.all false
open _root_.Array renaming replicate->cI
open Bool renaming eq_iff_iff->bJ
open Int renaming natAbs_natCast->aC,toNat_natCast->aG,sign_eq_one_of_pos->aJ,natCast_mul->aP,gcd->aS,mul_le_mul_of_nonneg_left->bH,natCast_pow->bI,pow_succ->bK,sign_eq_neg_one_of_neg->bN,le_of_lt->bZ,mul_ne_zero->cH,ofNat_tdiv->cL,mul_le_mul_of_nonneg_right->cW,pow_pos->cY,tdiv_eq_ediv_of_dvd->dJ,gcd_natCast_natCast->dK,mul_comm->dO
open List renaming replicate->aE,getElem?_eq_getElem->aH,getElem?_cons_zero->aI,length_append->aL,append_assoc->aR,getElem?_cons_succ->aT,exists_cons_of_ne_nil->aY,take_of_length_le->bC,takeWhile_append_dropWhile->bD,length_take->bF,eq_nil_of_length_eq_zero->bG,drop_zero->bM,length_drop->bX,length_map->cF,head?_cons->cG,take_append_drop->cJ,length_singleton->cK,take_succ_eq_append_getElem->cQ,length_cons->cT,getElem_mem->cU,getElem_map->cV,map_append->dA,append_nil->dB,getLast?_singleton->dH,append_cancel_left->dI,takeWhile_sublist->dM,drop_of_length_le->dN
open List.cons renaming injEq->aD
open Nat renaming pow_le_pow_right->aM,gcd->aQ,lt_of_lt_of_le->aU,div_le_self->aZ,le_refl->bB,mul_one->bU,gcd_dvd_right->bV,sub_zero->bY,min_eq_left->cD,pow_le_pow_left->cM,add_sub_cancel->cN,pow_succ->cO,le_trans->cP,div_one->cX,le_of_dvd->dF,gcd_pos_of_pos_right->dG,zero_add->dL
open Option.some renaming injEq->aW
open Rat renaming lt_iff->aX,divInt->bL,num_eq_zero->cC,intCast_add->cZ,add->dC,ceil_eq_neg_floor_neg->dD
open _root_.Go.Value renaming int->bW
open _root_.Go.Value.int renaming injEq->aK
open _root_.Go.Value.slice renaming injEq->aN
open _root_.Go renaming Addr->aO,TypeId->bO
open _root_.Go.Proofs.YtmbfcbbkbefgfaaGreatDoor renaming FCall->aF,Heap->aV,Priv->cR,den_ne->dE
namespace Go.Proofs.YtmbfcbbkbefgfaaGreatDoor
set_option maxRecDepth 20000
open Go
def nv:List Nat->Nat
 | []=>0
 | c::r=>c+10^19*nv r
def B32(ns:List Nat)(c:Nat):((nv (ns++[c]):Nat):Int)=(nv ns:Int)+cB^ns.length*(c:Int):=by
 induction ns with
 | nil=>simp [nv]
 | cons d r ih=>
  have e:((10^19:Nat):Int)=cB:=by decide
  simp only [List.cons_append,nv,cT,bK,Int.natCast_add,aP,ih,e]
  grind
def C59{ns:List Nat}(h:∀ c∈ns,c<10^19):nv ns<10^(19*ns.length):=by
 induction ns with
 | nil=>simp [nv]
 | cons d r ih=>
  have b:=h d (by simp)
  have e:=ih fun c a=>h c (by simp [a])
  simp only [nv,cT]
  rw [show 19*(r.length+1)=19+19*r.length by omega,Nat.pow_add]
  have:=Nat.mul_le_mul_left (10^19) (show nv r+1<=10^(19*r.length) by omega)
  rw [Nat.mul_add] at this;omega
def C58{ns:List Nat}(hne:ns≠[])(h:ns.getLast? ≠ some 0):nv ns≠0:=by
 induction ns with
 | nil=>exact absurd rfl hne
 | cons d r ih=>
  cases r with
  | nil=>simp at h;simp [nv];exact h
  | cons e s=>
   have:=ih (by simp) (by simpa [List.getLast?_cons_cons] using h)
   simp only [nv] at this ⊢
   have a:0<10^19*(e+10^19*nv s):=Nat.mul_pos (by decide) (by omega)
   omega
def B78{c:Nat}:aE (19-(N8 c).length) 48++N8 c=pad 19 c:=by
 unfold N8 pad
 split
 ·rename_i h;subst h;rw [I8];rfl
 ·rfl
def B2x{c w:Nat}(h:c≠0):aE (w-(N8 c).length) 48++N8 c=pad w c:=by
 unfold N8 pad;rw [iN h]
def B04{w n k:Nat}(h:n<10^k):(pad w n).length<=w+k:=by
 unfold pad
 have:=Q9.2 h
 rw [aL,List.length_replicate];omega
def B1c(W:Nat)(ns:List Nat)(k:Nat):List UInt8:=if k<ns.length then pad (W-19*k) (nv (ns.drop k)) else []
def B6j{W:Nat}{ns:List Nat}(h:∀ c∈ns,c<10^19)(k:Nat):(B1c W ns k).length<=W+19*ns.length:=by
 unfold B1c
 split
 ·have:=B04 (w:=W-19*k) (C59 (ns:=ns.drop k) fun c a=>h c (List.mem_of_mem_drop a))
  rw [bX] at this;omega
 ·simp
def B1w{W:Nat}{ns:List Nat}(hb:∀ c∈ns,c<10^19)(ht:ns.getLast? ≠ some 0){j:Nat}(hj:j<ns.length):B1c W ns j=B1c W ns (j+1)++(aE ((if j+1=ns.length then max (N8 ns[j]).length (W-19*j) else 19)-(N8 ns[j]).length) 48++N8 ns[j]):=by
 have e:ns.drop j=ns[j]::ns.drop (j+1):=List.drop_eq_getElem_cons hj
 unfold B1c
 rw [iP hj,e]
 by_cases h:j+1=ns.length
 ·rw [iN (by omega),iP h,List.nil_append,dN (by omega)]
  have f:ns[j]≠0:=by
   intro b
   apply ht
   rw [List.getLast?_eq_getElem?,<- h,cN,aH hj,b]
  rw [show max (N8 ns[j]).length (W-19*j)-(N8 ns[j]).length=(W-19*j)-(N8 ns[j]).length by omega,B2x f]
  simp [nv]
 ·rw [iP (by omega),iN h,B78]
  have d:nv (ns.drop (j+1))≠0:=by
   apply C58
   ·intro a;have:=congrArg List.length a;rw [bX] at this;simp at this;omega
   ·rw [List.getLast?_drop,iN (by omega)];exact ht
  have:=A3k (w:=W-19*j) (h:=nv (ns.drop (j+1))) (l:=ns[j]) (k:=19) (hb _ (cU hj)) (.inl d)
  rw [Nat.sub_sub] at this
  rw [show 19*(j+1)=19*j+19 by omega,<- this]
  congr 1
  simp only [nv];rw [Nat.mul_comm];omega
def Priv.clear{h g:aV}{e:bO}{A:Option aO}{n c:Nat}{xs:List Value}(p:cR h g e 1 A n c xs):cR h g e 1 A 0 c []:=by
 obtain ⟨m,l,a⟩:=p
 refine ⟨by simp,by omega,?_⟩
 rcases a with a|⟨b,d,i,j,f,k,o⟩
 ·exact .inl a
 ·exact .inr ⟨b,d,i,j,f,k,by simp⟩
def nz(ns:List Nat):List Int:=ns.map fun (x:Nat)=>(x:Int)
def Bx(g:aV)(eT:bO)(A:Option aO)(n c:Nat)(l:List UInt8)(p:aO)(CA:Option aO)(ns:List Nat)(bl t:List UInt8)(tA:Option aO)(tn tc:Nat)(hp:aV):Prop:=
 ∃ e2 gA gB,Ext g eT A n c l t tA tn tc e2 gA hp/\cR gA gB B1r 1 (some p) bl.length 20 (yv bl)/\g.le gB/\SlI .u64 gB CA (nz ns)
section
variable {h g:aV} {K:VP} {A CA:Option aO} {n c:Nat} {eT:bO} {l:List UInt8} {p:aO} {ns:List Nat}
def A7t{bl t s:List UInt8}{tA tA':Option aO}{tn tc tn' tc':Nat}{e2 e3:bO}{gA gB g' hp hp':aV}(x:Ext g eT A n c l t tA tn tc e2 gA hp)(q:cR gA gB B1r 1 (some p) bl.length 20 (yv bl))(lg:g.le gB)(sc:SlI .u64 gB CA (nz ns))(y:Ext gA e2 tA tn tc (l++t) s tA' tn' tc' e3 g' hp'):Bx g eT A n c l p CA ns bl (t++s) tA' tn' tc' hp':=by
 obtain ⟨a,b,d⟩:=q.after y.le
 exact ⟨e3,g',a,x.trans y,d,Heap.le_trans lg b,sc.mono b⟩
def B7y{Invv2:LP}{muv2:LN}{tA:Option aO}{tn tc q:Nat}{first:Bool}{i1 size:Int}{bl t:List UInt8}{hp9 hp11:aV}(x:Bx g eT A n c l p CA ns bl t tA tn tc hp11)(hq:B4 (size-((bl.length:Nat):Int))=(q:Int))(hb:n+t.length+q+bl.length<=100000000000)
 (hK:∀ tA' tn' tc' hp',Bx g eT A n c l p CA ns bl (t++(aE q 48++bl)) tA' tn' tc' hp'->Invv2 [.slice tA' tn' tc',.bool false,I (B4 (i1-1))] hp'/\muv2 [.slice tA' tn' tc',.bool false,I (B4 (i1-1))] hp'<muv2 [.slice tA tn tc,.bool first,I i1] hp9):
 Ba prog Invv2 muv2 tA tn tc first i1 (some p) bl.length 20 size hp9 hp11:=by
 unfold Ba
 rw [hq]
 refine ⟨fun s o=>∃ (k:Nat) (tA:Option aO) (tn tc:Nat),s=[.slice tA tn tc,I k]/\k<=q/\Bx g eT A n c l p CA ns bl (t++aE k 48) tA tn tc o,fun s _=>q-(iAt s 1).toNat,⟨0,tA,tn,tc,rfl,by omega,by simpa using x⟩,?_⟩
 rintro z N J R r ⟨k,C,F,D,b,X,e2,W,gB,ex,f,i,j⟩
 simp only [aD,aN,aK,and_true,true_and] at b
 obtain ⟨⟨rfl,rfl,rfl⟩,rfl⟩:=b
 have a:=ex.len
 rw [aL,List.length_replicate] at a
 refine B6 (fun G=>?_) (fun G=>?_)
 ·refine Fx (ch:=48) rfl ex.priv (by omega) ?_
  intro A' n' B Z E w y
  rw [B7 (by omega) (by omega)]
  refine ⟨⟨k+1,_,_,_,rfl,by omega,?_⟩,by simp only [iAt,aI,aT];omega⟩
  have:=A7t ex f i j y
  rwa [aR,<- List.replicate_succ'] at this
 ·obtain rfl:k=q:=by omega
  refine ⟨fun s o=>∃ (tA:Option aO) (tn tc:Nat),s=[.slice tA tn tc]/\Bx g eT A n c l p CA ns bl (t++(aE k 48++bl)) tA tn tc o,?_,?_⟩
  ·refine Wc Eg ex.priv (Hr bl) (SlV.mono ex.priv.le f.slV) (A0n _) (by omega) (by omega) ?_ ?_
   ·intro S w d
    rw [<- T9] at d
    refine ⟨_,_,_,rfl,_,_,_,rfl,?_⟩
    have:=A7t ex f i j (s:=bl) ⟨B3 _,d,rfl,fun _=>⟨rfl,rfl,rfl⟩,id⟩
    rwa [aR] at this
   ·intro S A' B w E m d
    rw [<- T9] at d
    refine ⟨_,_,_,rfl,_,_,_,rfl,?_⟩
    have:=A7t ex f i j (s:=bl) ⟨m,d,rfl,fun e=>by omega,fun _=>rfl⟩
    rwa [aR] at this
  ·rintro H M V u ⟨O,L,Q,b,T⟩
   simp only [aD,aN,and_true] at b
   obtain ⟨rfl,rfl,rfl⟩:=b
   exact hK _ _ _ _ T
def B7w{W tn tc:Nat}{tA:Option aO}{t:List UInt8}{e2:bO}{gA hp9:aV}(x:Ext g eT A n c l t tA tn tc e2 gA hp9)(hW:W<=10000000000)(hb:tn<=10000000000)(hK:∀ A' n' c' e3 g' h',Ext g eT A n c l (t++aE W 48) A' n' c' e3 g' h'->K (.slice A' n' c') h'):Az prog (W:Int) K tA tn tc hp9:=by
 unfold Az
 refine ⟨fun s j=>∃ (k:Nat) (tA:Option aO) (tn' tc:Nat) (e3:bO) (g':aV),s=[.slice tA tn' tc,I k]/\k<=W/\tn'=tn+k/\Ext g eT A n c l (t++aE k 48) tA tn' tc e3 g' j,fun s _=>W-(iAt s 1).toNat,⟨0,tA,tn,tc,e2,gA,rfl,by omega,rfl,by simpa using x⟩,?_⟩
 rintro o p q f b ⟨k,u,e,w,e3,g',a,z,i,ex⟩
 simp only [aD,aN,aK,and_true,true_and] at a
 obtain ⟨⟨rfl,rfl,rfl⟩,rfl⟩:=a
 refine B6 (fun r=>?_) (fun r=>?_)
 ·refine Fx (ch:=48) rfl ex.priv (by omega) ?_
  intro A' n' c' d m h' y
  rw [B7 (by omega) (by omega)]
  refine ⟨⟨k+1,_,_,_,d,m,rfl,by omega,?_,?_⟩,by simp only [iAt,aI,aT];omega⟩
  ·have:=y.len;simp at this;omega
  ·have:=ex.trans y
   rwa [aR,<- List.replicate_succ'] at this
 ·obtain rfl:k=W:=by omega
  exact hK _ _ _ _ _ _ ex
def B7x{W cn:Nat}{tA:Option aO}{tn tc:Nat}{hp8:aV}{b:Nat}(gp:Gp g)(hp:p=⟨b,0,none⟩)(x:Bx g eT A n c l p CA ns [] [] tA tn tc hp8)(hcn:cn=ns.length)(hb:∀ c∈ns,c<10^19)(ht:ns.getLast? ≠ some 0)(hW:W<=1000000000)(hn:n<=1000000000)(hnl:ns.length<=1000000000)
 (hK:∀ A' n' c' e3 g' h',Ext g eT A n c l (pad W (nv ns)) A' n' c' e3 g' h'->K (.slice A' n' c') h'):Bb prog tA tn tc (W:Int) K CA cn p hp8:=by
 subst hcn
 have i:J9 (some p) 20 0 1=some p:=by rw [hp];rfl
 unfold Bb
 refine ⟨fun s hp=>∃ (k:Nat) (tA:Option aO) (tn tc:Nat) (M:List UInt8),s=[.slice tA tn tc,.bool (decide (k=ns.length)),I ((k:Int)-1)]/\k<=ns.length/\Bx g eT A n c l p CA ns M (B1c W ns k) tA tn tc hp,fun s _=>(iAt s 2+1).toNat,⟨ns.length,tA,tn,tc,[],by rw [B7 (by omega) (by omega)];simp,bB _,by unfold B1c;rw [iN (by omega)];exact x⟩,?_⟩
 rintro o B u first i1 aa ⟨k,Z,ad,X,M,Q,hk,J,S,gB,ex,C,m,O⟩
 simp only [aD,aN,aK,Value.bool.injEq,and_true,true_and] at Q
 obtain ⟨⟨rfl,rfl,rfl⟩,rfl,rfl⟩:=Q
 have N:=ex.len
 have ac:=B6j (W:=W) hb k
 refine B6 (fun h1=>?_) (fun h1=>?_)
 ·obtain ⟨j,rfl⟩:∃ j,k=j+1:=⟨k-1,by omega⟩
  have e:((j+1:Nat):Int)-1=(j:Int):=by omega
  rw [e]
  have w:j<ns.length:=by omega
  refine ⟨⟨by omega,by omega⟩,?_⟩
  refine (O.mono (Heap.le_trans C.le ex.priv.le)).load (by simp [nz]) (by omega) (by simp;omega) ?_
  have hz:(nz ns).getD (j:Int).toNat 0=((ns[j]:Nat):Int):=by
   rw [aG];simp [nz,List.getD,w]
  rw [hz,i,show ((0:Int)).toNat-0=0 from rfl,show 20-0=20 from rfl]
  have a:=hb ns[j] (cU w)
  have V:(N8 ns[j]).length<=20:=(Ov (by decide)).2 (aU a (by decide))
  refine ex.priv.call ?_
  refine Hc (l:=[]) (gp.mono (Heap.le_trans m C.le)) C.clear (aU a (by decide)) (by omega) ?_
  intro A' n' c' e3 g' h0 y h' pt
  obtain ⟨rfl,rfl,rfl⟩:=y.fit (by omega)
  have H:=y.len
  rw [dL] at H
  subst H
  refine ⟨_,_,_,rfl,?_⟩
  have x2:Bx g eT A n c l p CA ns (N8 ns[j]) (B1c W ns (j+1)) o B u h':=
   ⟨J,h0,g',⟨Heap.le_trans m (Heap.le_trans y.le y.priv.le),pt,ex.len,ex.fit,ex.tag⟩,by simpa using y.priv,Heap.le_trans m y.le,O.mono y.le⟩
  refine ⟨fun s hp=>s=[I (((if j+1=ns.length then max (N8 ns[j]).length (W-19*j) else 19):Nat):Int)]/\hp=h',B6 (fun d=>⟨?_,rfl⟩) (fun d=>⟨by rw [iN d];rfl,rfl⟩),?_⟩
  ·rw [iP d,B7 (n:=19*(j:Int)) (by omega) (by omega),B7 (by omega) (by omega)]
   simp only [aD,aK,and_true,true_and]
   by_cases F:(W:Int)-19*(j:Int)>(((N8 ns[j]).length:Nat):Int)
   ·rw [iP F];omega
   ·rw [iN F];omega
  ·rintro f G ⟨r,rfl⟩
   obtain rfl:f=(((if j+1=ns.length then max (N8 ns[j]).length (W-19*j) else 19):Nat):Int):=by simpa using r
   have L:(N8 ns[j]).length<=19:=(Ov (by decide)).2 a
   generalize hsz:(if j+1=ns.length then max (N8 ns[j]).length (W-19*j) else 19)=sz at *
   have R:(N8 ns[j]).length<=sz/\sz<=W+20:=by
    rw [<- hsz];split<;>omega
   refine B7y (q:=sz-(N8 ns[j]).length) x2 (by rw [B7 (by omega) (by omega)];omega) (by have:=ex.len;omega) ?_
   intro D t z ae T
   rw [B7 (by omega) (by omega)]
   refine ⟨⟨j,D,t,z,N8 ns[j],?_,by omega,?_⟩,by simp only [iAt,aI,aT];omega⟩
   ·rw [show decide (j=ns.length)=false by simp;omega]
   ·rw [B1w hb ht w,hsz];exact T
 ·obtain rfl:k=0:=by omega
  refine B6 (fun d=>?_) (fun d=>?_)
  ·have E:ns=[]:=bG d.symm
   subst E
   refine B7w ex (by omega) (by omega) ?_
   intro A' n' c' e3 g' h' y
   refine hK _ _ _ e3 g' _ ?_
   have:B1c W [] 0++aE W 48=pad W (nv []):=by simp [B1c,nv,pad,I8]
   rwa [this] at y
  ·refine hK _ _ _ J S _ ?_
   ·have:B1c W ns 0=pad W (nv ns):=by unfold B1c;rw [iP (by omega)];simp
    rw [<- this];exact ex
end
def B82:(prog.info? B1r).map (fun i=>i.zero)=some (some (.agg (cI 20 (.int .u8 0)))):=by kernel_rfl
def C14(ns:List Nat)(c:Nat):nz (ns++[c])=nz ns++[(c:Int)]:=by simp [nz]
section
variable {h g:aV} {K:VP} {A XA:Option aO} {n c:Nat} {eT:bO} {l:List UInt8}
def Fc{xn xc v W:Nat}(gp:Gp g)(p:cR h g eT 1 A n c (yv l))(M:Mw g XA xn (v:Int))(hx:xn<=10000000)(hW:W<=1000000000)(hn:n<=1000000000)
 (hK:∀ A' n' c' e3 g' h',Ext g eT A n c l (pad W v) A' n' c' e3 g' h'->K (.slice A' n' c') h'):aF prog U8 #[.slice A n c,.slice XA xn xc,I (W:Int)] h K:=by
 obtain ⟨xs,E,sx,dx,nx,J⟩:=M
 refine Td _ _ _ _ _ _ _ ?_
 unfold Pj
 refine p.call ?_
 refine Ez sx E (by omega) ?_
 intro WA S h0 g0 l0 pw h1 T
 obtain ⟨z,aa,ao⟩:=T.swap pw
 refine ⟨_,_,_,rfl,?_⟩
 unfold Jf
 have aq:(v:Int)<2^(64*xn):=by
  have:=L5 (B:=b64) (by decide) dx
  rw [J,<- E,Ky] at this;exact this
 refine ⟨fun s hp=>∃ (d:List Int) (ns:List Nat) (WA CA:Option aO) (wn S cn cc:Nat) (z g2 g3:aV),s=[.slice WA wn S,.slice CA cn cc]/\Pw hp z WA wn S d/\Pw z g2 CA cn cc (nz ns)/\cR g2 g3 eT 1 A n c (yv l)/\g.le g3/\wn=d.length/\cn=ns.length/\wn<=xn/\Dig b64 d/\Norm d/\(∀ c∈ns,c<10^19)/\(v:Int)=val b64 d*cB^ns.length+(nv ns:Int)/\(d=[]->ns.getLast? ≠ some 0),fun s hp=>match s with|[.slice A n _,_]=>B37 b64 hp A n|_=>0,⟨xs,[],WA,none,xs.length,S,0,0,z,z,g0,rfl,aa,Priv.nil _ _ _ _,ao,l0,rfl,rfl,by omega,dx,nx,by simp,by simp [nv,J],by simp⟩,?_⟩
 rintro WA1 F am CA1 ai a0 H ⟨d,ns,WA2,CA2,au,ar,az,a1,z,g2,g3,hs,pw,pc,T,lg,w,ap,av,du,nu,hb,hv,t⟩
 simp only [aD,aN,and_true] at hs
 obtain ⟨⟨rfl,rfl,rfl⟩,rfl,rfl,rfl⟩:=hs
 have aw:=C6 (B:=b64) (by decide) du
 have Mu:Mw H WA1 F (val b64 d):=⟨d,w,pw.slV,du,nu,rfl⟩
 refine B6 (fun h2=>?_) (fun h2=>?_)
 ·have aj:d≠[]:=by rintro rfl;simp at w;omega
  have O:0<val b64 d:=by
   have:=Mu.len_zero (by decide)
   omega
  have u:ns.length<=64*xn:=by
   by_cases V:ns.length<=64*xn
   ·exact V
   ·exfalso
    have h3:(2:Int)^(64*xn)<=2^ns.length:=C8 (by decide) (by omega)
    have h4:(2:Int)^ns.length<=cB^ns.length:=by
     have:∀ k:Nat,(2:Int)^k<=cB^k:=by
      intro k
      induction k with
      | zero=>simp
      | succ k ih=>
       rw [bK,bK]
       exact Int.mul_le_mul ih (by decide) (by decide) (bZ (cY (by decide)))
     exact this _
    have h5:1*cB^ns.length<=val b64 d*cB^ns.length:=cW O (bZ (cY (by decide)))
    omega
  refine C3z pw aj w du (by omega) ?_
  intro C m r ay X hm ax nw dw a hr
  obtain ⟨q,ag,ah⟩:=X.swap pc
  refine Ds Q1 ag rfl rfl (by omega) (by omega) ?_
  intro CA' af h' g' ak j
  obtain ⟨y,l2,i⟩:=ah.after ak
  obtain ⟨g4,L,ac⟩:=j.swap i
  obtain ⟨g5,l5,an⟩:=T.after l2
  obtain ⟨c0,e⟩:∃ c0:Nat,r=(c0:Int):=⟨r.toNat,by omega⟩
  have R:c0<10^19:=by
   have N:r<10000000000000000000:=hr.2
   show c0<10000000000000000000
   omega
  have ae:=C6 (B:=b64) (by decide) dw
  refine ⟨⟨C.take m,ns++[c0],WA1,CA',m,am,ai+1,af,g4,y,g5,rfl,L,?_,an,Heap.le_trans lg l5,hm,by simp;omega,by omega,dw,nw,?_,?_,?_⟩,?_⟩
  ·have h9:=ac
   rw [<- List.map_singleton (f:=bW .u64),<- dA,e,<- C14] at h9
   exact h9
  ·intro c V
   rcases List.mem_append.1 V with N|N
   ·exact hb c N
   ·rw [List.mem_singleton.1 N];exact R
  ·rw [B32,hv,a,aL,cK,bK,e];grind
  ·intro he
   rw [List.getLast?_append]
   simp only [dH,Option.some_or,ne_eq,aW]
   intro e0
   rw [he] at a
   simp [val] at a
   omega
  ·show B37 b64 h' WA1 m<B37 b64 H WA1 F
   have Mw2:Mw h' WA1 m (val b64 (C.take m)):=⟨C.take m,hm,L.slV,dw,nw,rfl⟩
   rw [Am Mw2,Am Mu]
   have N:1*val b64 (C.take m)<=cB*val b64 (C.take m):=cW (by decide) ae
   have Z:val b64 d=10000000000000000000*val b64 (C.take m)+r:=by rw [a,dO]
   omega
 ·have D:d=[]:=bG (by omega)
  subst D
  obtain ⟨y,ad,j⟩:=pc.swap T
  obtain ⟨q,G,i⟩:=pw.swap ad
  have al:v=nv ns:=by
   simp [val] at hv;omega
  have u:ns.length<=1000000000:=by
   by_cases e:ns=[]
   ·subst e;simp
   ·have Z:=t rfl
    obtain ⟨ms,c0,rfl⟩:∃ ms c0,ns=ms++[c0]:=⟨ns.dropLast,ns.getLast e,(List.dropLast_concat_getLast e).symm⟩
    rw [List.getLast?_append] at Z
    simp only [dH,Option.some_or,ne_eq,aW] at Z
    have h8:=B32 ms c0
    by_cases V:ms.length<=64*xn
    ·simp;omega
    ·exfalso
     have h3:(2:Int)^(64*xn)<=2^ms.length:=C8 (by decide) (by omega)
     have h4:(2:Int)^ms.length<=cB^ms.length:=by
      have:∀ k:Nat,(2:Int)^k<=cB^k:=by
       intro k
       induction k with
       | zero=>simp
       | succ k ih=>
        rw [bK,bK]
        exact Int.mul_le_mul ih (by decide) (by decide) (bZ (cY (by decide)))
      exact this _
     have h5:cB^ms.length*1<=cB^ms.length*(c0:Int):=bH (by omega) (bZ (cY (by decide)))
     omega
  refine Dn B82 ?_
  intro b x
  refine ⟨_,rfl,?_⟩
  have hz:(Value.agg (cI 20 (.int .u8 0))).cells=(aE 20 (bW .u8 0)).toArray:=by rfl
  rw [hz]
  have Q:q b=none:=by
   cases hx1:q b with
   | none=>rfl
   | some o=>rw [G.le b o hx1] at x;cases x
  refine B7x (ns:=ns) gp rfl ⟨eT,_,q,⟨?_,?_,by simp,fun _=>⟨rfl,rfl,rfl⟩,id⟩,⟨by simp [yv],by simp,.inr ⟨b,aE 20 (bW .u8 0),rfl,Q,rfl,by simp,by simp [yv]⟩⟩,?_,?_⟩ ap hb (t rfl) hW hn u (by rw [<- al];exact hK)
  ·exact Heap.le_trans lg (Heap.le_trans j.le (Heap.le_trans i.le (Heap.le_put _ Q)))
  ·rw [dB];exact G.put x _
  ·exact Heap.le_trans lg (Heap.le_trans j.le i.le)
  ·exact (show SlI .u64 y CA1 (nz ns) from j.slV).mono i.le
end
def Hx(i:Nat):Nat:=10^(19*2^i)
def B20(i:Nat):Hx i=(10^19)^(2^i):=Nat.pow_mul _ _ _
def B6m(i:Nat):0<Hx i:=Nat.pow_pos (by decide)
def B1z:Hx 0=10000000000000000000:=by decide
def A2x(i:Nat):Hx (i+1)=Hx i*Hx i:=by
 unfold Hx
 rw [<- Nat.pow_add]
 congr 1
 rw [cO];omega
def C0k(i:Nat):(Hx i:Int)<b64^(2^i):=by
 have h:(10^19)^(2^i)<(18446744073709551616:Nat)^(2^i):=Nat.pow_lt_pow_left (by decide) (Nat.pos_iff_ne_zero.1 (Nat.pow_pos (by decide)))
 rw [<- B20] at h
 have a:((Hx i:Nat):Int)<((18446744073709551616^(2^i):Nat):Int):=Int.ofNat_lt.2 h
 rw [bI] at a
 exact a
def C0l(i:Nat):(2:Int)^(63*2^i)<=(Hx i:Int):=by
 have h:(2^63)^(2^i)<=(10^19)^(2^i):=cM (by decide) _
 rw [<- B20,<- Nat.pow_mul] at h
 have a:((2^(63*2^i):Nat):Int)<=((Hx i:Nat):Int):=Int.ofNat_le.2 h
 rw [bI] at a
 exact a
def C30{k m:Nat}(h:(2:Int)^k<2^m):k<m:=by
 by_cases a:k<m
 ·exact a
 ·have:=C8 (B:=2) (by decide) (show m<=k by omega)
  omega
abbrev slT(s:Option aO × Nat × Nat):Value:=.slice s.1 s.2.1 s.2.2
def Pws(h:aV)(PA:Option aO)(k:Nat):Prop:=∃ ss:List (Option aO × Nat × Nat),ss.length=k/\SlV h PA (ss.map slT)/\∀ i s,ss[i]? = some s->s.2.1<=s.2.2/\Mw h s.1 s.2.1 (Hx i:Int)
def Pws.mono{h h':aV}(l:h.le h'){PA:Option aO}{k:Nat}(p:Pws h PA k):Pws h' PA k:=by
 obtain ⟨b,d,c,a⟩:=p
 exact ⟨b,d,c.mono l,fun i s e=>⟨(a i s e).1,(a i s e).2.mono l⟩⟩
def Pws.take{h:aV}{PA:Option aO}{k j:Nat}(p:Pws h PA k)(hj:j<=k):Pws h PA j:=by
 obtain ⟨a,f,b,d⟩:=p
 refine ⟨a.take j,by rw [bF];omega,?_,fun i s e=>?_⟩
 ·have:=SlV.cut (c:=(a.map slT).length) b (Nat.zero_le j) (by rw [cF];omega) (bB _)
  rw [H8,bM,bY,<- List.map_take] at this
  exact this
 ·rw [List.getElem?_take] at e
  split at e
  ·exact d i s e
  ·cases e
def Pws.at{h:aV}{PA:Option aO}{k i:Nat}(p:Pws h PA k)(hi:i<k):∃ (a:aO) (A:Option aO) (n c:Nat),PA=some a/\h.cell? (a.add i)=some (.slice A n c)/\n<=c/\Mw h A n (Hx i:Int):=by
 obtain ⟨d,m,e,f⟩:=p
 obtain ⟨a,l,b⟩:=e.at (i:=i) (by rw [cF];omega)
 rw [cV] at b
 obtain ⟨g,j⟩:=f i d[i] (aH (by omega))
 exact ⟨a,_,_,_,l,b,g,j⟩
def Mw.tenP_le{h:aV}{A:Option aO}{n i:Nat}(m:Mw h A n (Hx i:Int)):n<=2^i:=m.len_le (by decide) (C0k i)
def Mw.tenP_ge{h:aV}{A:Option aO}{n i:Nat}(m:Mw h A n (Hx i:Int)):2^i<2*n:=by
 have a:=m.lt (by decide)
 rw [Ky] at a
 have b:=C30 (Int.lt_of_le_of_lt (C0l i) a)
 omega
def Ext.weak{g g0 g' h':aV}{eT e2:bO}{A A':Option aO}{n c n' c':Nat}{l t:List UInt8}(l0:g0.le g)(x:Ext g eT A n c l t A' n' c' e2 g' h'):Ext g0 eT A n c l t A' n' c' e2 g' h':=⟨Heap.le_trans l0 x.le,x.priv,x.len,x.fit,x.tag⟩
def B94(w n:Nat):w<=(pad w n).length:=by simp [pad];omega
def C0t{j:Nat}(hj:j<=30):B4 (19*2^(min j 64))=((19*2^j:Nat):Int):=by
 rw [cD (by omega)]
 have b:2^j<=2^30:=aM (by decide) hj
 have a:(19*2^j:Int)=((19*2^j:Nat):Int):=by rw [aP,bI];rfl
 rw [a,B7 (by omega) (by have:(2:Nat)^30=1073741824:=by decide
                         omega)]
def A1o{l:List UInt8}(hd:∀ c∈l,G9 c):(J4 l:Int)<b64^l.length:=by
 have d:=Gr hd
 have b:10^l.length<=(18446744073709551616:Nat)^l.length:=cM (by decide) _
 have a:((J4 l:Nat):Int)<((18446744073709551616^l.length:Nat):Int):=Int.ofNat_lt.2 (aU d b)
 rw [bI] at a
 exact a
def Ss:∀ (k:Nat) {h g:aV} {K:VP} {A XA PA:Option aO} {n c xn xc pc v W:Nat} {eT:bO} {l:List UInt8},Gp g->cR h g eT 1 A n c (yv l)->Mw g XA xn (v:Int)->xn<=xc->xn<=10000000->Pws g PA k->k<=pc->k<=26->(W=0\/W=19*2^k)->n+(pad W v).length<=1000000000->
 (∀ A' n' c' e3 g' h',Ext g eT A n c l (pad W v) A' n' c' e3 g' h'->K (.slice A' n' c') h')->aF prog H0 #[.slice A n c,.slice XA xn xc,I (W:Int),.slice PA k pc] h K:=by
 intro k
 induction k with
 | zero=>
  intro h g K A XA PA n c xn xc pc v W eT l f p M o C y G T hW S t
  have:=B94 W v
  refine Jd _ _ _ _ _ _ _ _ _ _ ?_
  unfold Je
  refine B6 (fun _=>?_) (fun e=>absurd (by decide) e)
  refine Fc f p M C (by omega) (by omega) ?_
  intro A' n' c' E g' h' x
  exact ⟨_,_,_,rfl,t _ _ _ E g' _ x⟩
 | succ j ih=>
  intro h g K A XA PA n c xn xc pc v W eT l f p M o C y G T hW S t
  have ah:=B94 W v
  have e1:B4 (((j+1:Nat):Int)-1)=(j:Int):=by rw [B7 (by omega) (by omega)];omega
  refine Jd _ _ _ _ _ _ _ _ _ _ ?_
  unfold Je
  simp only [e1,aG,bY,H8,C0t (show j<=30 by omega)]
  refine B6 (fun e=>absurd e (by omega)) (fun _=>B6 (fun _=>?_) (fun _=>?_))
  ·refine Fc f p M C (by omega) (by omega) ?_
   intro A' n' c' E g' h' x
   exact ⟨_,_,_,rfl,t _ _ _ E g' _ x⟩
  ·obtain ⟨a,PA',pn,ae,ha,V,s,Mp⟩:=y.at (i:=j) (by omega)
   refine ⟨a,ha,by omega,by omega,_,_,_,by rw [bU];exact B5 p.le V,?_⟩
   have ac:=Mp.tenP_le
   have ag:2^j<=2^26:=aM (by decide) (by omega)
   have ak:(2:Nat)^26=67108864:=by decide
   have D:=B6m j
   refine p.call ?_
   refine S7 M Mp o s (by omega) (by omega) (by omega) ?_
   intro A1 m1 c1 A2 m2 c2 g1 b k1 L M1 M2 h1 N
   refine ⟨_,_,_,_,_,_,rfl,?_⟩
   rw [<- Int.natCast_ediv] at M1
   rw [<- Int.natCast_emod] at M2
   have X:=Nat.div_add_mod v (Hx j)
   have u:=Nat.mod_lt v D
   have aa:=aZ v (Hx j)
   generalize v/Hx j=q at *
   generalize v%Hx j=r at *
   have hz:=M1.len_zero (by decide)
   have J:=M.lt (by decide)
   have ai:m1<=xn:=M1.len_le (by decide) (by omega)
   have ad:m2<=xn:=M2.len_le (by decide) (by
    have h0:0<=Hx j*q:=Nat.zero_le _
    generalize Hx j*q=z at *
    omega)
   have F:v=q*10^(19*2^j)+r:=by rw [<- X,Nat.mul_comm];rfl
   have Z:2^(j+1)=2*2^j:=by rw [cO];omega
   refine B6 (fun e=>absurd e (by omega)) (fun _=>?_)
   refine D8 (fun e0=>D8 (fun eW=>?_) (fun eW=>?_)) (fun e0=>?_)
   ·obtain rfl:W=0:=by omega
    obtain rfl:q=0:=by omega
    obtain rfl:v=r:=by omega
    refine ⟨⟨by omega,by omega⟩,?_⟩
    refine ih (W:=0) (f.mono b) N M2 L (by omega) ((y.mono b).take (by omega)) (by omega) (by omega) (.inl rfl) S ?_
    intro A4 n4 c4 Q O h4 H
    exact ⟨_,_,_,rfl,t _ _ _ _ _ _ (H.weak b)⟩
   all_goals
    have hw:q≠0\/19*2^j<=W:=by omega
    have d:=A3k (w:=W) (h:=q) (l:=r) (k:=19*2^j) u hw
    rw [<- F] at d
    have B:(pad (19*2^j) r).length=19*2^j:=Yo u
    have af:(pad W v).length=(pad (W-19*2^j) q).length+19*2^j:=by rw [d,aL,B]
    refine ⟨⟨by omega,by omega⟩,?_⟩
    have e3:(if (0:Int)>B4 ((W:Int)-((19*2^j:Nat):Int)) then (0:Int) else B4 ((W:Int)-((19*2^j:Nat):Int)))=((W-19*2^j:Nat):Int):=by
     rw [B7 (by omega) (by omega)]
     split<;>omega
    rw [e3]
    refine ih (f.mono b) N M1 k1 (by omega) ((y.mono b).take (by omega)) (by omega) (by omega) (by omega) (by omega) ?_
    intro A3 n3 c3 e3 g3 h3 m
    have aj:=m.len
    have R:=Heap.le_trans b m.le
    refine ⟨_,_,_,rfl,⟨by omega,by omega⟩,?_⟩
    refine ih (f.mono R) m.priv (M2.mono m.le) L (by omega) ((y.mono R).take (by omega)) (by omega) (by omega) (.inr rfl) (by omega) ?_
    intro A4 n4 c4 Q O h4 H
    refine ⟨_,_,_,rfl,t _ _ _ Q O _ ?_⟩
    rw [d]
    exact (m.trans H).weak b
def Ic:∀ (k:Nat) {h:aV} {K:VP} {PA:Option aO} {pc:Nat} {l:List UInt8},(∀ c∈l,G9 c)->l.length<=100000000->Pws h PA k->k<=pc->k<=30->(∀ A n c h',h.le h'->n<=c->Mw h' A n (J4 l:Int)->K (.slice A n c) h')->aF prog L7 #[.string (bs l),.slice PA k pc] h K:=by
 intro k
 induction k using Nat.strongRecOn with
 | _ k ih=>
  intro h K PA pc l x S B aa hk F
  refine Xp _ _ _ _ ?_
  unfold Wg
  rw [H9]
  have b:aF prog M0 #[.string (bs l)] h (fun r w=>∃ (A:Option aO) (n c:Nat),r= .slice A n c/\K (.slice A n c) w):=by
   refine Sr x S ?_
   intro A n c h' m f M
   exact ⟨_,_,_,rfl,F _ _ _ _ m f M⟩
  refine ⟨fun s w=>w=h/\∃ j:Nat,s=[I ((j:Int)-1)]/\j<=k,fun s _=>(iAt s 0+1).toNat,⟨rfl,k,by rw [B7 (by omega) (by omega)],bB _⟩,?_⟩
  rintro last w ⟨rfl,j,hs,hj⟩
  obtain rfl:last=(j:Int)-1:=by simpa using hs
  refine B6 (fun R=>?_) (fun R=>B6 (fun _=>b) (fun e=>absurd (show (j:Int)-1<0 by omega) e))
  obtain ⟨i,rfl⟩:∃ i,j=i+1:=⟨j-1,by omega⟩
  have N:((i+1:Nat):Int)-1=(i:Int):=by omega
  have H:0<2^i:=Nat.pow_pos (by decide)
  simp only [N,aG,bY,H8,C0t (show i<=30 by omega)]
  refine B6 (fun e=>absurd e (by omega)) (fun _=>B6 (fun E=>?_) (fun E=>?_))
  ·refine ⟨⟨trivial,i,by rw [B7 (by omega) (by omega)],by omega⟩,?_⟩
   simp only [iAt,aI]
   rw [B7 (by omega) (by omega)]
   omega
  refine B6 (fun e=>absurd e (by omega)) (fun _=>B6 (fun _=>b) (fun G=>B6 (fun e=>absurd e (by omega)) (fun _=>?_)))
  have L:B4 ((l.length:Int)-((19*2^i:Nat):Int))=((l.length-19*2^i:Nat):Int):=by rw [B7 (by omega) (by omega)];omega
  simp only [L,aG,L3,bM,bY]
  obtain ⟨a,PA',pn,X,W,f,q,Mp⟩:=B.at (i:=i) (by omega)
  refine ⟨⟨by omega,by omega⟩,⟨by omega,by omega⟩,a,W,by omega,by omega,_,_,_,by rw [bU];exact f,?_⟩
  have T:=Mp.tenP_le
  have Q:19*2^i<l.length:=by omega
  have o:∀ c∈l.take (l.length-19*2^i),G9 c:=fun c f=>x c (List.mem_of_mem_take f)
  have u:∀ c∈l.drop (l.length-19*2^i),G9 c:=fun c f=>x c (List.mem_of_mem_drop f)
  have y:(l.take (l.length-19*2^i)).length=l.length-19*2^i:=by rw [bF];omega
  have g:(l.drop (l.length-19*2^i)).length=19*2^i:=by rw [bX];omega
  have d:J4 l=J4 (l.take (l.length-19*2^i))*Hx i+J4 (l.drop (l.length-19*2^i)):=by
   have:=Gs (l.take (l.length-19*2^i)) (l.drop (l.length-19*2^i))
   rw [cJ,g] at this
   exact this
  have O:=A1o x
  have t:=A1o o
  have p:=A1o u
  rw [y] at t
  rw [g] at p
  refine ih i (by omega) o (by omega) (B.take (by omega)) (by omega) (by omega) ?_
  intro A1 n1 c1 E m k1 M1
  refine ⟨_,_,_,rfl,m,?_⟩
  have ad:=M1.len_le (by decide) t
  refine H2 M1 (Mp.mono m) k1 q (by omega) (by omega) ?_
  intro A2 n2 c2 h2 z V M2
  refine ⟨_,_,_,rfl,z,⟨by omega,by omega⟩,⟨by omega,by omega⟩,?_⟩
  rw [<- aP] at M2
  have ac:=M2.len_le (by decide) (Int.lt_of_le_of_lt (Int.ofNat_le.2 (by rw [d];exact Nat.le_add_right _ _)) O)
  rw [bC (by rw [g];omega)]
  refine ih i (by omega) u (by omega) ((B.mono (Heap.le_trans m z)).take (by omega)) (by omega) (by omega) ?_
  intro A3 n3 c3 h3 C J M3
  refine ⟨_,_,_,rfl,C,?_⟩
  have ae:=M3.len_le (by decide) p
  refine R9 (M2.mono C) M3 V J (by omega) (by omega) ?_
  intro A4 n4 c4 h4 D Z M4
  refine ⟨_,_,_,rfl,D,F _ _ _ _ (Heap.le_trans m (Heap.le_trans z (Heap.le_trans C D))) Z ?_⟩
  rw [<- Int.natCast_add,<- d] at M4
  exact M4
section
variable {h g:aV} {K:VP} {A XA:Option aO} {n c:Nat} {eT:bO} {l:List UInt8}
def A2y{hs:aV}{ss:List (Option aO × Nat × Nat)}{s:Option aO × Nat × Nat}(h3:∀ i s,ss[i]? = some s->s.2.1<=s.2.2/\Mw hs s.1 s.2.1 (Hx i:Int))(h4:s.2.1<=s.2.2/\Mw hs s.1 s.2.1 (Hx ss.length:Int)):∀ i t,(ss++[s])[i]? = some t->t.2.1<=t.2.2/\Mw hs t.1 t.2.1 (Hx i:Int):=by
 intro i t e
 by_cases a:i<ss.length
 ·rw [List.getElem?_append_left a] at e;exact h3 i t e
 ·rw [List.getElem?_append_right (by omega)] at e
  by_cases b:i=ss.length
  ·subst b
   simp at e
   subst e;exact h4
  ·rw [List.getElem?_eq_none (by simp;omega)] at e;cases e
def A04{hs:aV}{b:Nat}{e:bO}: ∀ i (t:Option aO × Nat × Nat),[((some ⟨b,0,none⟩:Option aO),1,1)][i]? = some t->t.2.1<=t.2.2/\Mw (hs.put b (.cells #[U 10000000000000000000] e)) t.1 t.2.1 (Hx i:Int):=by
 intro i t a
 rcases i with _|i
 ·simp at a
  subst a
  refine ⟨bB _,[10000000000000000000],rfl,SlI.new _ _ _ _ _,?_,?_,?_⟩
  ·intro x c;simp at c;subst c;decide
  ·unfold Norm;simp
  ·rw [B1z];simp [val]
 ·simp at a
def Uu(hd:∀ c∈l,G9 c)(hl:l.length<=100000000)(hK:∀ A n c h',h.le h'->n<=c->Mw h' A n (J4 l:Int)->K (.slice A n c) h'):aF prog Gb #[.string (bs l)] h K:=by
 refine Xo _ ?_
 unfold Wf
 rw [H9]
 refine B6 (fun h5=>?_) (fun _=>?_)
 ·refine An Q1 rfl ?_
  intro q r
  refine ⟨_,_,_,rfl,?_⟩
  refine Ds A81 (Priv.nil _ _ _ none) rfl rfl (by omega) (by omega) ?_
  intro A1 c1 h1 X j S
  refine ⟨fun s w=>∃ (f:List (Option aO × Nat × Nat)) (PA:Option aO) (k x:Nat) (g:aV),s=[.slice PA k x]/\cR w g Fl 1 PA k x (f.map slT)/\f.length=k/\0<k/\h.le g/\(∀ i s,f[i]? = some s->s.2.1<=s.2.2/\Mw g s.1 s.2.1 (Hx i:Int))/\2^(k-1)<=l.length,fun s _=>match s with|[.slice _ n _]=>l.length-n|_=>0,⟨[(some ⟨q,0,none⟩,1,1)],A1,1,c1,X,rfl,S,rfl,by omega,Heap.le_trans (Heap.le_put _ r) j,fun i s e=>⟨(A04 (hs:=h) (b:=q) (e:=C1) i s e).1,(A04 (hs:=h) (b:=q) (e:=C1) i s e).2.mono j⟩,by simp;omega⟩,?_⟩
  rintro PA k x w ⟨f,PA',k',F,g,hs,p,y,J,z,m,T⟩
  simp only [aD,aN,and_true] at hs
  obtain ⟨rfl,rfl,rfl⟩:=hs
  have B:k-1<27:=by
   by_cases d:k-1<27
   ·exact d
   ·have:2^27<=2^(k-1):=aM (by decide) (by omega)
    have:(2:Nat)^27=134217728:=by decide
    omega
  rw [aG,C0t (show k<=30 by omega)]
  have R:B4 ((k:Int)-1)=((k-1:Nat):Int):=by rw [B7 (by omega) (by omega)];omega
  have o:Pws w PA k:=⟨f,y,p.slV,fun i s e=>⟨(m i s e).1,(m i s e).2.mono p.le⟩⟩
  refine B6 (fun e=>absurd e (by omega)) (fun _=>B6 (fun Q=>?_) (fun Q=>?_))
  ·obtain ⟨a,L,d⟩:=p.slV.at (i:=k-1) (by rw [cF];omega)
   rw [cV] at d
   obtain ⟨E,M⟩:=m (k-1) (f[k-1]'(by omega)) (aH (by omega))
   generalize f[k-1]'(by omega)=s at *
   rw [R,aG,bU]
   refine ⟨a,L,by omega,by omega,_,_,_,d,?_⟩
   have C:=M.tenP_le
   refine p.call ?_
   refine H2 M M E E (by omega) (by omega) ?_
   intro A2 H c2 g2 D N M2 h2 O
   refine ⟨_,_,_,rfl,?_⟩
   refine Ds A81 O rfl rfl (by omega) (by omega) ?_
   intro A3 W h3 Z t V
   have hm:2^k=2*2^(k-1):=by
    obtain ⟨i,rfl⟩:∃ i,k=i+1:=⟨k-1,by omega⟩
    rw [cO];simp;omega
   have G:k<2^k:=Nat.lt_two_pow_self
   refine ⟨⟨f++[(A2,H,c2)],A3,k+1,W,Z,rfl,?_,by simp;omega,by omega,Heap.le_trans z (Heap.le_trans D t),?_,?_⟩,?_⟩
   ·rw [dA];exact V
   ·refine A2y (fun i s e=>⟨(m i s e).1,(m i s e).2.mono (Heap.le_trans D t)⟩) ⟨N,?_⟩
    rw [y,show Hx k=Hx (k-1)*Hx (k-1) by rw [<- A2x];congr 1;omega,aP]
    exact M2.mono t
   ·rw [cN];omega
   ·show l.length-(k+1)<l.length-k
    omega
  ·refine Ic k hd hl o p.2.1 (by omega) ?_
   intro A n c h' u d M
   exact ⟨_,_,_,rfl,hK _ _ _ _ (Heap.le_trans z (Heap.le_trans p.le u)) d M⟩
 ·refine Ic 0 hd hl ⟨[],rfl,SlV.nil,by simp⟩ (by omega) (by omega) ?_
  intro A n c h' u d M
  exact ⟨_,_,_,rfl,hK _ _ _ _ u d M⟩
def Jt(hd:∀ c∈l,G9 c)(hl:l.length<=100000000)(hK:∀ A n c h',h.le h'->ZI h' false A n c (J4 l:Int)->K (.agg #[.bool false,.slice A n c]) h'):aF prog Jx #[.string (bs l)] h K:=by
 refine B4y _ ?_
 unfold B9n
 refine Uu hd hl ?_
 intro A n c h' a b M
 refine ⟨_,_,_,rfl,hK _ _ _ _ a ⟨b,?_,?_⟩⟩
 ·rw [aC];exact M
 ·symm;rw [decide_eq_false_iff_not];omega
end
def Priv.le_put'{h g:aV}{e:bO}{s:Nat}{A:Option aO}{n c:Nat}{xs:List Value}(p:cR h g e s A n c xs){b:Nat}(hb:h b=none)(o:Obj):g.le (g.put b o):=by
 intro k f d
 have a:k≠b:=by
  rintro rfl
  rw [p.le k f d] at hb;cases hb
 rw [B8 _ _ a];exact d
def B1j{n:Int}(h0:9223372036854775808<=n)(h1:n<18446744073709551616):B4 n=n-18446744073709551616:=by
 unfold B4 IntKind.wrap
 simp only [IntKind.signed,IntKind.bits]
 have e:n%18446744073709551616=n:=by omega
 simp only [show (2^64:Int)=18446744073709551616 from rfl,show (2^(64-1):Int)=9223372036854775808 from rfl,e]
 rw [iP (by simp;omega)]
section
variable {h g:aV} {K:VP} {A XA:Option aO} {n c:Nat} {eT:bO} {l:List UInt8}
def C3t{v xn:Nat}(hv:(v:Int)<b64^xn):(dd v).length<=20*xn:=by
 refine Q9.2 ?_
 rw [Nat.pow_mul]
 have a:((v:Nat):Int)<((18446744073709551616^xn:Nat):Int):=by rw [bI];exact hv
 exact aU (Int.ofNat_lt.1 a) (cM (by decide) _)
def He{xn xc v:Nat}(gp:Gp g)(p:cR h g eT 1 A n c (yv l))(M:Mw g XA xn (v:Int))(hxc:xn<=xc)(hx:xn<=10000000)(hn:n<=200000000)
 (hK:∀ A' n' c' e3 g' h',Ext g eT A n c l (N8 v) A' n' c' e3 g' h'->K (.slice A' n' c') h'):aF prog Z6 #[.slice A n c,.slice XA xn xc] h K:=by
 have h0:=M.len_zero (by decide)
 refine Wm _ _ _ _ _ _ ?_
 unfold Si
 refine D8 (fun e=>?_) (fun e=>?_)
 ·obtain rfl:v=0:=by omega
  refine Fx (ch:=48) rfl p (by omega) ?_
  intro A' n' c' E g' h' x
  exact hK _ _ _ _ _ _ x
 ·have Z:v≠0:=by omega
  refine D8 (fun V=>?_) (fun V=>?_)
  ·obtain ⟨xs,t,sx,dx,nx,J⟩:=M
   obtain ⟨w,rfl⟩:∃ w,xs=[w]:=by
    rcases xs with _|⟨w,_|⟨w',r⟩⟩
    ·simp at t;omega
    ·exact ⟨w,rfl⟩
    ·simp at t;omega
   rw [W4] at J
   subst J
   refine (SlI.mono p.le sx).load t (by omega) (by omega) ?_
   have o:=dx v (by simp)
   refine Hc (gp.mono p.le) p (by have:(v:Int)<18446744073709551616:=o.2;omega) (by omega) ?_
   intro A' n' c' E g' h' x
   exact ⟨_,_,_,rfl,hK _ _ _ _ _ _ x⟩
  ·have af:=C3t (M.lt (by decide))
   have ac:(pad 0 v).length<=200000000:=by rw [A8c];omega
   refine An Q1 rfl ?_
   intro F H
   refine ⟨_,_,_,rfl,?_⟩
   have p1:=p.put H (.cells #[U 10000000000000000000] C1)
   have l1:=p.le_put' H (.cells #[U 10000000000000000000] C1)
   have w1:=fun i s e=>A04 (hs:=g) (b:=F) (e:=C1) i s e
   generalize h.put F (Obj.cells #[U 10000000000000000000] C1)=h1 at *
   generalize g.put F (Obj.cells #[U 10000000000000000000] C1)=g1 at *
   refine An A81 rfl ?_
   intro b2 O
   refine ⟨_,_,_,rfl,?_⟩
   have split:∀ {z:aV} {m:List (Option aO × Nat × Nat)} {PA:Option aO} {k u:Nat} {f d:aV},cR z f Fl 1 PA k u (m.map slT)->cR f d eT 1 A n c (yv l)->m.length=k->g.le d->(∀ i s,m[i]? = some s->s.2.1<=s.2.2/\Mw d s.1 s.2.1 (Hx i:Int))->k<=26->
    aF prog H0 #[.slice A n c,.slice XA xn xc,I (0:Int),.slice PA k u] z (fun r S=>∃ (A1:Option aO) (n1 c1:Nat),r= .slice A1 n1 c1/\K (.slice A1 n1 c1) S):=by
    intro z m PA k u f d y G B D o j
    obtain ⟨g3,T,q⟩:=y.swap G
    have L:=Heap.le_trans D q.le
    refine Ss k (W:=0) (gp.mono L) T (M.mono L) hxc hx ⟨m,B,q.slV,fun i s e=>⟨(o i s e).1,(o i s e).2.mono q.le⟩⟩ q.2.1 j (.inl rfl) (by omega) ?_
    intro A' n' c' E g' h' x
    refine ⟨_,_,_,rfl,hK _ _ _ E g' _ ?_⟩
    rw [A8c,<- Z8 Z] at x
    exact x.weak L
   refine ⟨fun s z=>∃ (m:List (Option aO × Nat × Nat)) (PA:Option aO) (k u:Nat) (f d:aV),s=[.slice PA k u]/\cR z f Fl 1 PA k u (m.map slT)/\cR f d eT 1 A n c (yv l)/\m.length=k/\0<k/\g.le d/\(∀ i s,m[i]? = some s->s.2.1<=s.2.2/\Mw d s.1 s.2.1 (Hx i:Int))/\2^(k-1)<=2*xn,fun s _=>match s with|[.slice _ n _]=>xn-n|_=>0,⟨[(some ⟨F,0,none⟩,1,1)],_,1,1,h1,g1,rfl,⟨by simp,by simp,.inr ⟨b2,[.slice (some ⟨F,0,none⟩) 1 1],rfl,O,rfl,by simp,by simp⟩⟩,p1,rfl,by omega,l1,w1,by simp;omega⟩,?_⟩
   rintro PA k u z ⟨m,PA',k',ag,f,d,hs,y,G,B,ai,D,o,ae⟩
   simp only [aD,aN,and_true] at hs
   obtain ⟨rfl,rfl,rfl⟩:=hs
   have j:k<=26:=by
    by_cases C:k<=26
    ·exact C
    ·have h1:2^26<=2^(k-1):=aM (by decide) (by omega)
     have h2:(2:Nat)^26=67108864:=by decide
     omega
   refine B6 (fun ad=>?_) (fun _=>split y G B D o j)
   have V:B4 ((k:Int)-1)=((k-1:Nat):Int):=by rw [B7 (by omega) (by omega)];omega
   obtain ⟨a,ha,C⟩:=y.slV.at (i:=k-1) (by rw [cF];omega)
   rw [cV] at C
   obtain ⟨h4,Mk⟩:=o (k-1) (m[k-1]'(by omega)) (aH (by omega))
   generalize m[k-1]'(by omega)=s at *
   simp only [V,aG,bU]
   refine ⟨a,ha,by omega,by omega,_,_,_,C,?_⟩
   have al:=Mk.tenP_ge
   have aj:=Mk.tenP_le
   have E:B4 (2*(s.2.1:Int))=2*(s.2.1:Int):=B7 (by omega) (by omega)
   rw [E]
   refine B6 (fun h5=>?_) (fun _=>split y G B D o j)
   refine ⟨a,ha,by omega,by omega,_,_,_,C,?_⟩
   refine y.call (G.call ?_)
   refine H2 Mk Mk h4 h4 (by omega) (by omega) ?_
   intro A2 m2 c2 g2 l2 k2 M2 aa X ak Q
   refine ⟨_,_,_,rfl,?_⟩
   refine Ds A81 Q rfl rfl (by omega) (by omega) ?_
   intro A3 c3 h3 g3 L p3
   obtain ⟨g4,R,N⟩:=X.after L
   have hm:2^k=2*2^(k-1):=by
    obtain ⟨i,rfl⟩:∃ i,k=i+1:=⟨k-1,by omega⟩
    rw [cO];simp;omega
   have ah:k<2^k:=Nat.lt_two_pow_self
   refine ⟨⟨m++[(A2,m2,c2)],A3,k+1,c3,g3,g4,rfl,?_,N,by simp;omega,by omega,Heap.le_trans D (Heap.le_trans l2 R),?_,?_⟩,?_⟩
   ·rw [dA];exact p3
   ·refine A2y (fun i s e=>⟨(o i s e).1,(o i s e).2.mono (Heap.le_trans l2 R)⟩) ⟨k2,?_⟩
    rw [B,show Hx k=Hx (k-1)*Hx (k-1) by rw [<- A2x];congr 1;omega,aP]
    exact M2.mono R
   ·rw [cN];omega
   ·show xn-(k+1)<xn-k
    omega
def B6d{z:Int}{s:Bool}{xn xc m:Nat}(i:ZI h s XA xn xc z)(hz:ZB m z)(hm:m<=100000000):xn<=10000000:=by
 obtain ⟨k,hk⟩:∃ k,k=10000000:=⟨_,rfl⟩
 rw [<- hk]
 refine i.mag.len_le (by decide) ?_
 rw [Ky]
 have b:(z.natAbs:Int)<2^m:=by
  have:((z.natAbs:Nat):Int)<((2^m:Nat):Int):=Int.ofNat_lt.2 hz
  simpa using this
 have a:=C8 (B:=2) (by decide) (show m<=64*k by omega)
 exact Int.lt_of_lt_of_le b a
def Hp{s:Bool}{xn xc:Nat}{z:Int}(gp:Gp g)(p:cR h g eT 1 A n c (yv l))(i:ZI g s XA xn xc z){m:Nat}(hz:ZB m z)(hm:m<=100000000)(hn:n<=100000000)
 (hK:∀ A' n' c' e3 g' h',Ext g eT A n c l (Hl z) A' n' c' e3 g' h'->K (.slice A' n' c') h'):aF prog Ii #[.agg #[.bool s,.slice XA xn xc],.slice A n c] h K:=by
 have j:=B6d i hz hm
 refine B0r _ _ _ _ _ _ _ ?_
 unfold B4v
 refine Br.of (fun e=>?_) (fun e=>?_)
 ·have a:z<0:=by have:=i.sgn;rw [e] at this;simpa using this.symm
  rw [Th a] at hK
  refine Fx (ch:=45) rfl p (by omega) ?_
  intro A1 u c1 t w r b
  have:=b.len
  refine He (gp.mono b.le) b.priv (i.mag.mono b.le) i.cap j (by simp at this;omega) ?_
  intro A2 k c2 q o f d
  exact ⟨_,_,_,rfl,hK _ _ _ _ _ _ (b.trans d)⟩
 ·have a:¬ z<0:=by have:=i.sgn;rw [e] at this;simpa using this.symm
  rw [Jp a] at hK
  refine He gp p i.mag i.cap j (by omega) ?_
  intro A2 k c2 q o f d
  exact ⟨_,_,_,rfl,hK _ _ _ _ _ _ d⟩
def Hn{s:Bool}{xn xc:Nat}{z:Int}(gp:Gp h)(i:ZI h s XA xn xc z){m:Nat}(hz:ZB m z)(hm:m<=100000000)(hK:K (.string (bs (Hl z))) h):aF prog Ig #[.agg #[.bool s,.slice XA xn xc]] h K:=by
 refine FCall.pure (B0o _ _ _ _ ?_)
 unfold B4p
 refine Hp (l:=[]) (eT:=F8) gp (Priv.nil _ _ _ _) i hz hm (by omega) ?_
 intro A' f d c b e x
 refine ⟨_,_,_,rfl,?_⟩
 have a:=x.len
 refine Jq Eg.und Cm T1 x.priv.slV (by simpa using a) ⟨_,rfl,?_⟩
 exact ⟨Heap.le_trans x.le x.priv.le,hK⟩
def A5k{s:Bool}{xn xc:Nat}{z:Int}(i:ZI h s XA xn xc z)(hK1: -9223372036854775808<=z->z<9223372036854775808->K (.tuple #[I z,.bool true]) h)(hK0:¬ (-9223372036854775808<=z/\z<9223372036854775808)->K (.tuple #[I 0,.bool false]) h):aF prog A0y #[.agg #[.bool s,.slice XA xn xc]] h K:=by
 have A:=i.zeroIff
 have n:=Ab i.sgn
 refine B4t _ _ _ _ ?_
 unfold B9l
 refine D8 (fun e=>?_) (fun e=>?_)
 ·obtain rfl:z=0:=by omega
  exact hK1 (by omega) (by omega)
 ·obtain ⟨g,a,m,q,x,d⟩:=i.mag
  have k:=N9 q 0
  refine m.load a (by omega) (by omega) ?_
  rw [show ((0:Int)).toNat=0 from rfl]
  refine B6 (fun l=>?_) (fun l=>?_)
  ·refine hK0 ?_
   have o:=i.mag.ge (by decide) (by omega)
   have u:b64^1<=b64^(xn-1):=C8 (by decide) (by omega)
   have y:b64^1=18446744073709551616:=by decide
   omega
  ·obtain ⟨w,rfl⟩:∃ w,g=[w]:=by
    rcases g with _|⟨w,_|⟨t,r⟩⟩
    ·simp at a;omega
    ·exact ⟨w,rfl⟩
    ·simp at a;omega
   rw [W4] at d
   have p:[w].getD 0 0=w:=rfl
   rw [p] at k ⊢
   rcases n with ⟨rfl,j⟩|⟨rfl,j⟩
   ·refine Br.of (fun _=>?_) (fun c=>by cases c)
    refine B6 (fun b=>?_) (fun b=>?_)
    ·have:B4 (C0 (0-w))=z:=by rw [E4,B1j (by omega) (by omega)];omega
     rw [this];exact hK1 (by omega) (by omega)
    ·refine Br.of (fun f=>by cases f) (fun _=>?_)
     exact hK0 (by omega)
   ·refine Br.of (fun c=>by cases c) (fun _=>?_)
    refine Br.of (fun _=>?_) (fun f=>by cases f)
    refine B6 (fun b=>?_) (fun b=>?_)
    ·have:B4 w=z:=by rw [B7 (by omega) (by omega)];omega
     rw [this];exact hK1 (by omega) (by omega)
    ·exact hK0 (by omega)
end
def A08(q:Rat)(f:Int):(q-f).num=q.num-f*q.den/\(q-f).den=q.den:=by
 have b:aQ (q.num-f*q.den).natAbs q.den=1:=by
  have a:aS (q.num-f*q.den) q.den=aS q.num q.den:=Int.gcd_sub_mul_right_left _ _ _
  have c:aS q.num q.den=1:=by
   have:=q.reduced
   unfold Nat.Coprime at this
   unfold aS
   simpa using this
  rw [c] at a
  unfold aS at a
  simpa using a
 have e:q-f=⟨q.num-f*q.den,q.den,q.den_nz,b⟩:=by
  rw [Rat.sub_def',Rat.mk_eq_mkRat];simp
 rw [e];exact ⟨rfl,rfl⟩
def Ny{r:Rat}(h:0<r):r⁻¹.num=r.den/\(r⁻¹.den:Int)=r.num/\0<r⁻¹:=by
 have a:0<r.num:=by
  have:=aX 0 r
  simp at this;exact this.1 h
 refine ⟨?_,?_,Rat.inv_pos.2 h⟩
 ·rw [Rat.num_inv,aJ a,Int.one_mul]
 ·rw [Rat.den_inv,iN (by omega)];omega
def A8g{r:Rat}(h:0<r):0<r.num:=by
 have:=aX 0 r
 simp at this;exact this.1 h
def Ir{q:Rat}{f:Int}(h1:(f:Rat)<q)(h2:q<f+1):(q-f)⁻¹.num=q.den/\((q-f)⁻¹.den:Int)=q.num-f*q.den/\(q-f)⁻¹.den<q.den/\1<(q-f)⁻¹:=by
 have j:0<q-f:=by grind
 have i:q-f<1:=by grind
 obtain ⟨a,b,c⟩:=Ny j
 obtain ⟨d,e⟩:=A08 q f
 have g:=(aX (q-f) 1).1 i
 simp only [Rat.one_num,Rat.one_den] at g
 rw [e] at a g
 rw [d] at b g
 refine ⟨a,b,by omega,?_⟩
 rw [aX]
 simp only [Rat.one_num,Rat.one_den]
 rw [a,b];omega
def Yy(q:Rat):(q<=q.ceil)/\((q.ceil:Rat)<q+1)/\((q.floor:Rat)<=q)/\(q<q.floor+1):=by
 refine ⟨Rat.le_ceil,Rat.ceil_lt,Rat.floor_le q,?_⟩
 have:=Rat.lt_floor_add_one q
 simpa using this
def A4g{q:Rat}(h:(q.floor:Rat)<q):q.ceil=q.floor+1:=by
 obtain ⟨i,f,e,g⟩:=Yy q
 have a:(q.floor:Rat)<(q.ceil:Rat):=by grind
 have b:(q.ceil:Rat)<((q.floor+2:Int):Rat):=by
  rw [cZ];simp;grind
 have c:=Rat.intCast_lt_intCast.1 a
 have d:=Rat.intCast_lt_intCast.1 b
 omega
def A6z{q:Rat}(h:¬ (q.floor:Rat)<q):(q.ceil:Rat)=q/\(q.floor:Rat)=q:=by
 have a:=Rat.floor_le q
 have e:(q.floor:Rat)=q:=Rat.le_antisymm a (Rat.not_lt.1 h)
 refine ⟨?_,e⟩
 have:q.ceil=q.floor:=by
  conv=>lhs;rw [<- e]
  exact Rat.ceil_intCast _
 rw [this,e]
def B33{lo hi:Rat}(h:¬ ((lo.ceil:Rat)<=hi\/¬ lo<=hi)):(lo.floor:Rat)<lo/\lo<=hi/\hi<lo.floor+1:=by
 have a:¬ (lo.ceil:Rat)<=hi:=fun e=>h (.inl e)
 have c:lo<=hi:=by
  by_cases e:lo<=hi
  ·exact e
  ·exact absurd (.inr e) h
 by_cases b:(lo.floor:Rat)<lo
 ·refine ⟨b,c,?_⟩
  have:=A4g b
  rw [this,cZ,Rat.not_le] at a
  simpa using a
 ·exfalso
  rw [(A6z b).1] at a
  exact a c
def Hk(lo hi:Rat):Rat:=
 if _h:(lo.ceil:Rat)<=hi\/¬ lo<=hi then lo.ceil else lo.floor+(Hk (hi-lo.floor)⁻¹ (lo-lo.floor)⁻¹)⁻¹
termination_by lo.den+hi.den
decreasing_by
 obtain ⟨a,b,c⟩:=B33 _h
 have e:=(Ir a (Std.lt_of_le_of_lt b c)).2.2.1
 have d:=(Ir (Std.lt_of_lt_of_le a b) c).2.2.1
 omega
def Ul{lo hi:Rat}(h:(lo.ceil:Rat)<=hi):Hk lo hi=lo.ceil:=by
 rw [Hk,dif_pos (.inl h)]
def Pz{lo hi:Rat}(h:¬ (lo.ceil:Rat)<=hi)(h2:lo<=hi):Hk lo hi=lo.floor+(Hk (hi-lo.floor)⁻¹ (lo-lo.floor)⁻¹)⁻¹:=by
 rw [Hk,dif_neg (fun e=>e.elim h (fun e=>e h2))]
def Cc{a b:Rat}(ha:0<a)(h:a<=b):b⁻¹<=a⁻¹:=by
 have c:0<b:=Std.lt_of_lt_of_le ha h
 obtain ⟨e,f,_⟩:=Ny ha
 obtain ⟨g,d,_⟩:=Ny c
 have:=(Rat.le_iff a b).1 h
 rw [Rat.le_iff,e,f,g,d]
 rw [dO (b.den:Int),dO (a.den:Int)]
 exact this
def A35:∀ n (lo hi:Rat),lo.den+hi.den<=n->0<lo->lo<=hi->(lo<=Hk lo hi/\Hk lo hi<=hi)/\∀ y,lo<=y->y<=hi->(Hk lo hi).den<=y.den/\(Hk lo hi).num<=y.num:=by
 intro n
 induction n with
 | zero=>intro lo hi h;have:=lo.den_nz;omega
 | succ n ih=>
  intro lo hi X p d
  by_cases h:(lo.ceil:Rat)<=hi
  ·rw [Ul h]
   refine ⟨⟨(Yy lo).1,h⟩,?_⟩
   intro y k m
   have r:0<y:=Std.lt_of_lt_of_le p k
   refine ⟨by rw [Rat.den_intCast];have:=y.den_nz;omega,?_⟩
   rw [Rat.num_intCast,Rat.ceil_le_iff]
   refine Rat.le_trans k ?_
   rw [Rat.le_iff,Rat.num_intCast,Rat.den_intCast]
   have A:=A8g r
   have B:1<=(y.den:Int):=by have:=y.den_nz;omega
   have:=bH B (bZ A)
   simpa using this
  ·obtain ⟨a,b,c⟩:=B33 (fun e=>e.elim h (fun e=>e d))
   rw [Pz h d]
   generalize hf:lo.floor=f at *
   have l:0<=f:=by
    have:(-1:Int)<lo.floor:=by
     have Z:(0:Int)<=lo.floor:=Rat.le_floor_iff.2 (by simpa using Rat.le_of_lt p)
     omega
    omega
   obtain ⟨T,R,V,F⟩:=Ir a (Std.lt_of_le_of_lt b c)
   obtain ⟨W,J,E,u⟩:=Ir (Std.lt_of_lt_of_le a b) c
   have i:(hi-f)⁻¹<=(lo-f)⁻¹:=Cc (by grind) (by grind)
   obtain ⟨⟨o,s⟩,w⟩:=ih (hi-f)⁻¹ (lo-f)⁻¹ (by omega) (by grind) i
   generalize hx:Hk (hi-f)⁻¹ (lo-f)⁻¹=x at *
   have q:1<x:=Std.lt_of_lt_of_le u o
   have g:0<x:=by grind
   obtain ⟨N,L,D⟩:=Ny g
   have C:=Cc (show 0<(hi-f)⁻¹ by grind) o
   have z:=Cc g s
   rw [Rat.inv_inv] at C z
   refine ⟨⟨by grind,by grind⟩,?_⟩
   have j:((f:Rat)+x⁻¹).den=x⁻¹.den/\((f:Rat)+x⁻¹).num=x⁻¹.num+f*x⁻¹.den:=by
    have:=A08 (x⁻¹) (-f)
    rw [Rat.intCast_neg] at this
    have e:x⁻¹ - -(f:Rat)=f+x⁻¹:=by grind
    rw [e] at this
    refine ⟨this.2,?_⟩
    rw [this.1];grind
   intro y k m
   obtain ⟨G,O,M,Q⟩:=Ir (Std.lt_of_lt_of_le a k) (Std.lt_of_le_of_lt m c)
   obtain ⟨S,H⟩:=w (y-f)⁻¹ (Cc (by grind) (by grind)) (Cc (by grind) (by grind))
   have t:x⁻¹.den<=y.den:=by omega
   refine ⟨by rw [j.1];exact t,?_⟩
   rw [j.2]
   have:=bH (show (x⁻¹.den:Int)<=y.den by omega) l
   omega
def B6y{lo hi:Rat}(h0:0<lo)(h:lo<=hi):lo<=Hk lo hi/\Hk lo hi<=hi:=(A35 _ lo hi (bB _) h0 h).1
def A84{m:Nat}{lo hi:Rat}(h0:0<lo)(h:lo<=hi)(hs:Sz m lo):Sz m (Hk lo hi):=by
 obtain ⟨⟨c,_⟩,b⟩:=A35 _ lo hi (bB _) h0 h
 obtain ⟨a,d⟩:=b lo Rat.le_refl h
 have:=A8g (Std.lt_of_lt_of_le h0 c)
 exact ⟨hs.num.le (by omega),hs.den.le (by simpa using a)⟩
def B2c(lo hi:Rat):Rat:=if hi<0 then -Hk (-hi) (-lo) else if lo<=0 then 0 else Hk lo hi
def B38(a b:Rat):(a*b).num=a.num.tdiv (aQ a.num.natAbs b.den:Nat)*b.num.tdiv (aQ b.num.natAbs a.den:Nat)/\(a*b).den=a.den/(aQ b.num.natAbs a.den)*(b.den/(aQ a.num.natAbs b.den)):=by
 show (Rat.mul a b).num=_/\(Rat.mul a b).den=_
 delta Rat.mul
 simp only [Int.divExact_eq_tdiv,Nat.divExact_eq_div,and_self]
def Zd(a b:Rat)(h:a.den.gcd b.den=1):(a+b).num=a.num*b.den+b.num*a.den/\(a+b).den=a.den*b.den:=by
 show (dC a b).num=_/\(dC a b).den=_
 delta dC
 simp only [h,dif_pos,and_self]
def Zc(a b:Rat)(h:a.den.gcd b.den≠1){g r:Nat}{z:Int}(hg:g=a.den.gcd b.den)(hz:z=a.num*(b.den/g:Nat)+b.num*(a.den/g:Nat))(hr:r=z.natAbs.gcd g):(a+b).num=z.tdiv r/\(a+b).den=a.den/g*(b.den/r):=by
 subst hg hz
 have c:r∣b.den:=by rw [hr];exact Nat.dvd_trans (bV ..) (bV ..)
 show (dC a b).num=_/\(dC a b).den=_
 delta dC
 simp only [h,dif_neg,not_false_eq_true]
 rw [Rat.maybeNormalize_eq]
 subst hr
 refine ⟨?_,Nat.mul_div_assoc _ c⟩
 simp only [Int.divExact_eq_tdiv]
def Oz(a:Rat)(z:Int):(a+z).num=z*a.den+a.num/\(a+z).den=a.den:=by
 have:=A08 a (-z)
 rw [Rat.intCast_neg] at this
 have e:a - -(z:Rat)=a+z:=by grind
 rw [e] at this
 refine ⟨by rw [this.1,Int.neg_mul];omega,this.2⟩
def Yt{q:Rat}(h:q.den=1):q=(q.num:Rat):=by
 apply Rat.ext
 ·simp
 ·simpa using h
abbrev dgt(c:UInt8):Bool:=decide (G9 c)
def Nc(l:List UInt8):∀ c∈l.takeWhile dgt,G9 c:=by
 induction l with
 | nil=>simp
 | cons d r ih=>
  intro c a
  by_cases b:G9 d
  ·simp [b] at a
   rcases a with rfl|a
   ·exact b
   ·exact ih c a
  ·simp [b] at a
def B77(l:List UInt8):Bool:=decide ([45] <+: l)
def Ek(l:List UInt8):List UInt8:=if [45] <+: l then l.drop 1 else l
def A8b(l:List UInt8):l=(if B77 l then [45] else [])++Ek l:=by
 unfold B77 Ek
 by_cases h:[45] <+: l
 ·obtain ⟨t,rfl⟩:=h;simp
 ·simp [h]
def B2u(l:List UInt8):B77 l=(l.head? == some 45):=by
 unfold B77
 cases l with
 | nil=>simp
 | cons c r=>
  rw [cG,bJ,decide_eq_true_iff,beq_iff_eq,aW]
  constructor
  ·rintro ⟨t,e⟩;simp at e;exact e.1.symm
  ·rintro rfl;exact ⟨r,rfl⟩
def Form.parts{l:List UInt8}{neg:Bool}{a b:List UInt8}(f:Form l neg a b):neg=B77 l/\a=(Ek l).takeWhile dgt/\(if b=[] then [] else 47::b)=(Ek l).dropWhile dgt:=by
 have g:neg=B77 l:=by rw [B2u];exact f.head
 have e:=A8b l
 rw [<- g] at e
 have i:=e.symm.trans f.eq
 rw [aR] at i
 have j:=dI i
 have k:∀ c,(if b=[] then [] else 47::b:List UInt8).head? = some c->¬ G9 c:=by
  intro c d
  split at d
  ·simp at d
  ·simp at d;subst d;decide
 have:=Fq f.da k
 rw [<- j] at this
 exact ⟨g,this.1.symm,this.2.symm⟩
section
variable {h g:aV} {K:VP} {l:List UInt8}
def Km(hl:l.length<=1000000000)(hK:K (.tuple #[.string (bs (l.takeWhile dgt)),.string (bs (l.dropWhile dgt))]) h):aF prog Ag #[.string (bs l)] h K:=by
 refine A20 _ ?_
 unfold Zh
 simp only [H9]
 refine ⟨fun L e=>L=[I (((l.takeWhile dgt).length:Nat):Int)]/\e=h,?_,?_⟩
 ·refine ⟨fun L e=>∃ k:Nat,L=[I k]/\e=h/\k<=l.length/\(∀ c∈l.take k,G9 c),fun L _=>l.length-(iAt L 0).toNat,⟨0,rfl,rfl,by omega,by simp⟩,?_⟩
  rintro n e ⟨k,j,rfl,u,g⟩
  obtain rfl:=sI1 j
  have a:(∀ c,(l.drop k).head? = some c->¬ G9 c)->[I (k:Int)]=[I (((l.takeWhile dgt).length:Nat):Int)]/\e=e:=by
   intro w
   have:=Fq g w
   rw [cJ] at this
   refine ⟨?_,rfl⟩
   rw [this.1,bF,cD u]
  refine B6 (fun y=>?_) (fun y=>?_)
  ·have f:k<l.length:=by omega
   have d:(bs l)[(k:Int).toNat]? = some l[k]:=by rw [aG,Is,aH f]
   have t:(l.drop k).head? = some l[k]:=by rw [List.head?_drop,aH f]
   refine ⟨l[k],⟨by omega,d⟩,B6 (fun q=>?_) (fun q=>?_)⟩
   ·refine ⟨l[k],⟨by omega,d⟩,B6 (fun r=>?_) (fun r=>?_)⟩
    ·rw [B7 (by omega) (by omega)]
     refine ⟨⟨k+1,rfl,rfl,by omega,?_⟩,by simp only [iAt,aI];omega⟩
     rw [cQ f]
     intro c b
     rcases List.mem_append.1 b with m|m
     ·exact g c m
     ·rw [List.mem_singleton.1 m];exact ⟨by omega,by omega⟩
    ·exact a (fun c b=>by rw [t] at b;cases b;intro g;exact r (by have:=g.2;omega))
   ·exact a (fun c b=>by rw [t] at b;cases b;intro g;exact q (by have:=g.1;omega))
  ·exact a (fun c b=>by rw [dN (by omega)] at b;cases b)
 ·rintro n e ⟨j,rfl⟩
  obtain rfl:n=(((l.takeWhile dgt).length:Nat):Int):=by simpa using j
  have i:(l.takeWhile dgt).length<=l.length:=(dM _).length_le
  have o:l.take (l.takeWhile dgt).length=l.takeWhile dgt:=by
   conv=>lhs;rw [<- bD (p:=dgt) (l:=l)]
   rw [bD,List.prefix_iff_eq_take.1 (List.takeWhile_prefix _)]
   rw [bF,cD i]
  have s:l.drop (l.takeWhile dgt).length=l.dropWhile dgt:=by
   have x:l.takeWhile dgt++l.drop (l.takeWhile dgt).length=l.takeWhile dgt++l.dropWhile dgt:=by
    rw [bD]
    conv=>lhs;lhs;rw [<- o]
    exact cJ _ _
   exact dI x
  refine ⟨⟨by omega,by omega⟩,⟨by omega,by omega⟩,?_⟩
  rw [aG,L3,L3,bM,bY,o,s,bC (by rw [<- s,bX];omega)]
  exact hK
def Y2(a:List UInt8):((bs a).toList==({ data:=#[] }:ByteArray).toList)=decide (a=[]):=Kn a []
def Py(hl:l.length<=1000000000)(hK1:∀ neg a b,Form l neg a b->K (.tuple #[.agg #[.bool neg,.string (bs a),.string (bs b)],.bool true]) h)(hK0:(∀ neg a b,¬ Form l neg a b)->∀ neg a b,K (.tuple #[.agg #[.bool neg,.string (bs a),.string (bs b)],.bool false]) h):aF prog Oe #[.string (bs l)] h K:=by
 refine B53 _ ?_
 unfold B9s
 refine Xm (q:=[45]) ⟨_,_,rfl,?_⟩
 have z:(Ek l).length<=l.length:=by unfold Ek;split<;>simp
 show aF prog Ag #[.string (bs (Ek l))] h _
 refine Km (by omega) ⟨_,_,rfl,?_⟩
 show Br _ _ _
 have A:Ek l=(Ek l).takeWhile dgt++(Ek l).dropWhile dgt:=List.takeWhile_append_dropWhile.symm
 have w:∀ c∈(Ek l).takeWhile dgt,G9 c:=Nc _
 have j:∀ neg a b,Form l neg a b->neg=B77 l/\a=(Ek l).takeWhile dgt/\(if b=[] then [] else 47::b)=(Ek l).dropWhile dgt:=fun neg a b f=>f.parts
 have g:=A8b l
 have ac:((Ek l).takeWhile dgt).length<=l.length:=cP (dM _).length_le z
 have X:((Ek l).dropWhile dgt).length<=l.length:=cP (List.dropWhile_sublist _).length_le z
 have aa:∀ c,((Ek l).dropWhile dgt).head? = some c->¬ G9 c:=fun c N=>by
  have:=List.head?_dropWhile_not dgt (Ek l)
  rw [N] at this
  simpa using this
 show Br _ _ _
 have C:decide ([45] <+: l)=B77 l:=rfl
 rw [C]
 generalize B77 l=neg at *
 generalize (Ek l).takeWhile dgt=a at *
 generalize (Ek l).dropWhile dgt=r at *
 generalize Ek l=t at *
 subst A
 have R:((bs a).toList==({ data:=#[48] }:ByteArray).toList)=decide (a=[48]):=Kn a [48]
 rw [R,Y2,Y2]
 refine B6 (fun S=>?_) (fun S=>?_)
 ·subst S
  refine O9 (Br.of (fun V=>?_) (fun V=>?_))
  ·subst V
   refine hK0 ?_ _ _ []
   intro F y i f
   obtain ⟨rfl,rfl,_⟩:=j _ _ _ f
   rcases f.ha with d|d
   ·exact d rfl
   ·cases d.2.1
  ·subst V
   by_cases E:r=[]
   ·rw [decide_eq_true E]
    subst E
    refine hK1 false [48] [] ⟨by simpa using g,by simpa using w,by simp,by simp,.inr ⟨rfl,rfl,rfl⟩,by simp,by simp⟩
   ·rw [decide_eq_false E]
    refine hK0 ?_ _ _ []
    intro F y i f
    obtain ⟨rfl,rfl,n⟩:=j _ _ _ f
    rcases f.ha with d|d
    ·exact d rfl
    ·rw [d.2.2] at n;exact E (by simpa using n.symm)
 ·refine ⟨fun L hp=>L=[.bool (decide (a=[]\/a.head? = some 48))]/\hp=h,?_,?_⟩
  ·refine B6 (fun d=>⟨by simp [d],rfl⟩) (fun d=>?_)
   obtain ⟨c,m,rfl⟩:=aY d
   refine ⟨c,⟨by omega,by rw [Is];rfl⟩,?_,rfl⟩
   congr 2
   rw [bJ,beq_iff_eq,decide_eq_true_iff]
   simp only [reduceCtorEq,false_or,cG,aW]
   constructor
   ·intro e;apply UInt8.toNat_inj.1;show c.toNat=48;omega
   ·rintro rfl;rfl
  rintro O hp ⟨hL,rfl⟩
  obtain rfl:O=decide (a=[]\/a.head? = some 48):=by simpa using hL
  refine B6 (fun d=>?_) (fun d=>?_)
  ·refine hK0 ?_ _ _ []
   intro F y i f
   obtain ⟨rfl,rfl,_⟩:=j _ _ _ f
   rcases d with d|d
   ·exact f.ne d
   ·rcases f.ha with n|n
    ·exact n d
    ·exact S n.1
  ·have u:a≠[]:=fun e=>d (.inl e)
   have D:a.head? ≠ some 48:=fun e=>d (.inr e)
   refine B6 (fun n=>?_) (fun n=>?_)
   ·subst n
    exact hK1 neg a [] ⟨by simpa using g,w,by simp,u,.inl D,by simp,by simp⟩
   ·obtain ⟨c,m,rfl⟩:=aY n
    refine ⟨c,⟨by omega,by rw [Is];rfl⟩,I3 (fun h4=>?_) (fun h4=>?_)⟩
    ·refine hK0 ?_ _ _ []
     intro F y i f
     obtain ⟨rfl,rfl,o⟩:=j _ _ _ f
     by_cases x:i=[]
     ·simp [x] at o
     ·rw [iN x] at o
      simp at o
      exact h4 (by rw [<- o.1];rfl)
    ·have N:c=47:=by apply UInt8.toNat_inj.1;show c.toNat=47;omega
     subst N
     refine ⟨⟨by omega,by rw [H9];simp;omega⟩,?_⟩
     rw [L3,show ((1:Int)).toNat=1 from rfl,H9,bC (by simp),List.drop_succ_cons,bM]
     refine Km (by simp at X;omega) ⟨_,_,rfl,?_⟩
     have p:m=m.takeWhile dgt++m.dropWhile dgt:=List.takeWhile_append_dropWhile.symm
     have T:∀ c∈m.takeWhile dgt,G9 c:=Nc _
     have Q:∀ i:List UInt8,(∀ c∈i,G9 c)->i=m->m.takeWhile dgt=i/\m.dropWhile dgt=[]:=by
      intro i hd e
      subst e
      have:=Fq (r:=[]) hd (by simp)
      simpa using this
     generalize m.takeWhile dgt=b at *
     generalize m.dropWhile dgt=s at *
     have G:(s≠[]\/b=[]\/b.head? = some 48\/b=[49])->∀ neg' y i,¬ Form (((if neg=true then [45] else [])++(a++47::m))) neg' y i:=by
      rintro B F y i f
      rw [<- g] at f
      obtain ⟨rfl,rfl,o⟩:=j _ _ _ f
      by_cases x:i=[]
      ·simp [x] at o
      ·rw [iN x] at o
       simp at o
       obtain ⟨e6,e7⟩:=Q i f.db o
       subst e6
       rcases B with k|k|k|k
       ·exact k e7
       ·exact x k
       ·exact f.hb k
       ·exact f.b1 k
     rw [Y2,Y2]
     have J:((bs b).toList==({ data:=#[49] }:ByteArray).toList)=decide (b=[49]):=Kn b [49]
     rw [J]
     refine B6 (fun k=>?_) (fun k=>hK0 (by rw [g];exact G (.inl k)) _ _ _)
     subst k
     rw [dB] at p
     subst p
     refine O9 (B6 (fun M=>hK0 (by rw [g];exact G (.inr (.inl M))) _ _ _) (fun M=>?_))
     obtain ⟨c,W,rfl⟩:=aY M
     refine ⟨c,⟨by omega,by rw [Is];rfl⟩,I3 (fun Z=>?_) (fun Z=>?_)⟩
     ·by_cases H:c::W=[49]
      ·rw [decide_eq_true H]
       exact hK0 (by rw [g];exact G (.inr (.inr (.inr H)))) _ _ _
      ·rw [decide_eq_false H]
       refine hK1 neg a (c::W) ⟨by simpa using g,w,T,u,.inl D,?_,H⟩
       intro e;simp at e;exact Z (by rw [e];rfl)
     ·have hh:(c::W).head? = some 48:=by
       simp only [cG,aW]
       apply UInt8.toNat_inj.1;show c.toNat=48;omega
      exact hK0 (by rw [g];exact G (.inr (.inr (.inl hh)))) _ _ _
end
def B81:(prog.info? B1q).map (fun i=>i.zero)=some (some (.agg (cI 48 (.int .u8 0)))):=by kernel_rfl
def A4d{x y:Int}(hy:0<y):(bL x y).num=x.tdiv (aS x y)/\((bL x y).den:Int)=y.tdiv (aS x y):=by
 have b:(aS x y:Int)∣x:=Int.gcd_dvd_left ..
 have a:(aS x y:Int)∣y:=Int.gcd_dvd_right ..
 constructor
 ·rw [Rat.num_divInt,aJ hy,Int.one_mul,Int.gcd_comm,dJ b]
 ·rw [Rat.den_divInt,iN (by omega),Int.gcd_comm,Int.natCast_ediv,Int.natAbs_of_nonneg (by omega),dJ a]
def A02{q:Rat}(h:q.den=1):I9 q=Hl q.num:=by unfold I9;rw [iP h,dB]
def A2r{q:Rat}(h:q.den≠1):I9 q=Hl q.num++[47]++Hl (q.den:Int):=by
 unfold I9;rw [iN h,Jp (i:=(q.den:Int)) (by omega),aC];simp
section
variable {h g:aV} {K:VP} {l:List UInt8}
def C52{k:Nat}(h:k<=18):10^k<=1000000000000000000:=cP (aM (by decide) h) (by decide)
def Hb(hd:∀ c∈l,G9 c)(hl:l.length<=18)(hK:K (I (J4 l:Int)) h):aF prog Z7 #[.string (bs l)] h K:=by
 refine Ws _ ?_
 unfold Sk
 simp only [H9]
 refine ⟨fun L f=>∃ k:Nat,L=[I (J4 (l.take k):Int),I k]/\f=h/\k<=l.length,fun L _=>l.length-(iAt L 1).toNat,⟨0,rfl,rfl,by omega⟩,?_⟩
 rintro n p f ⟨k,g,rfl,o⟩
 simp only [aD,aK,and_true,true_and] at g
 obtain ⟨rfl,rfl⟩:=g
 refine B6 (fun j=>?_) (fun j=>?_)
 ·have a:k<l.length:=by omega
  have b:=hd l[k] (cU a)
  have d:=Gr (l:=l.take (k+1)) (fun c i=>hd c (List.mem_of_mem_take i))
  rw [bF,cD (by omega)] at d
  have m:=C52 (k:=k+1) (by omega)
  have q:J4 (l.take (k+1))=10*J4 (l.take k)+(l[k].toNat-48):=by rw [cQ a,Ip]
  unfold G9 at b
  refine ⟨l[k],⟨by omega,by rw [aG,Is,aH a]⟩,?_⟩
  have e:B4 (B4 (10*((J4 (l.take k):Nat):Int))+B4 (wu8 (((l[k].toNat:Nat):Int)-48)))=((J4 (l.take (k+1)):Nat):Int):=by
   rw [Yc (by omega) (by omega),B7 (n:=((l[k].toNat:Nat):Int)-48) (by omega) (by omega),B7 (n:=10*((J4 (l.take k):Nat):Int)) (by omega) (by omega),B7 (by omega) (by omega)]
   omega
  rw [e,B7 (n:=(k:Int)+1) (by omega) (by omega)]
  exact ⟨⟨k+1,rfl,rfl,by omega⟩,by simp only [iAt,aI,aT];omega⟩
 ·obtain rfl:k=l.length:=by omega
  rw [List.take_length];exact hK
def A2v{a b:Nat}(hK:K (I (aQ a b:Int)) h):aF prog A8l #[I (a:Int),I (b:Int)] h K:=by
 refine C28 _ _ ?_
 unfold C6m
 refine ⟨fun L d=>∃ x y:Nat,L=[I x,I y]/\d=h/\aQ x y=aQ a b,fun L _=>(iAt L 1).toNat,⟨a,b,rfl,rfl,rfl⟩,?_⟩
 rintro j l d ⟨x,y,i,rfl,c⟩
 obtain ⟨rfl,rfl⟩:j=(x:Int)/\l=(y:Int):=by simpa using i
 refine I3 (fun f=>?_) (fun f=>?_)
 ·have g:y≠0:=by omega
  refine B6 (fun e=>absurd e f) (fun _=>?_)
  have e:Int.tmod (x:Int) (y:Int)=((x%y:Nat):Int):=(Int.ofNat_tmod x y).symm
  rw [e]
  have k:=Nat.mod_lt x (Nat.pos_of_ne_zero g)
  refine ⟨⟨y,x%y,rfl,rfl,?_⟩,by simp only [iAt,aI,aT];omega⟩
  rw [<- c,Nat.gcd_comm x y,Nat.gcd_rec y x,Nat.gcd_comm]
 ·obtain rfl:y=0:=by omega
  rw [Nat.gcd_zero_right] at c
  rw [c];exact hK
def Dr(hK1:∀ q,l=I9 q->q.num.natAbs<1000000000->q.den<1000000000->K (.tuple #[.agg #[I q.num,I (q.den:Int)],.bool true]) h)(hK0:K (.tuple #[.agg #[I 0,I 0],.bool false]) h):aF prog Af #[.string (bs l)] h K:=by
 refine A1z _ ?_
 unfold Zg
 rw [H9]
 refine B6 (fun _=>hK0) (fun O=>?_)
 refine Py (by omega) ?_ ?_
 ·intro neg a b f
  refine ⟨_,_,_,_,rfl,?_⟩
  simp only [H9]
  refine ⟨fun L i=>L=[.bool (decide (a.length>9\/b.length>9))]/\i=h,Br.of (fun e=>by cases e) (fun _=>B6 (fun u=>⟨?_,rfl⟩) (fun u=>⟨?_,rfl⟩)),?_⟩
  ·rw [decide_eq_true (show a.length>9\/b.length>9 by omega)]
  ·by_cases B:b.length>9
   ·rw [decide_eq_true (show a.length>9\/b.length>9 by omega)]
    exact congrArg (fun x=>[Value.bool x]) (decide_eq_true (show ((b.length:Nat):Int)>9 by omega))
   ·rw [decide_eq_false (show ¬ (a.length>9\/b.length>9) by omega)]
    exact congrArg (fun x=>[Value.bool x]) (decide_eq_false (show ¬ ((b.length:Nat):Int)>9 by omega))
  rintro g i ⟨s,rfl⟩
  obtain rfl:g=decide (a.length>9\/b.length>9):=by simpa using s
  refine B6 (fun _=>hK0) (fun u=>?_)
  have j:(Sd neg a).natAbs=J4 a:=by unfold Sd;split<;>simp
  have J:=Gr f.da
  have F:=Gr f.db
  have y:∀ k,k<=9->10^k<=1000000000:=fun k A=>cP (aM (by decide) A) (by decide)
  have H:=y a.length (by omega)
  have G:=y b.length (by omega)
  refine Hb f.da (by omega) ⟨_,rfl,?_⟩
  refine ⟨fun L d=>L=[I 0,I 0,I (J4 a:Int),I (Mi b:Int)]/\d=i/\aQ (J4 a) (Mi b)=1,?_,?_⟩
  ·rw [Y2]
   refine O9 (B6 (fun r=>?_) (fun r=>?_))
   ·subst r;exact ⟨rfl,rfl,by unfold Mi;simp⟩
   ·refine Hb f.db (by omega) ⟨_,rfl,A2v ⟨_,rfl,I3 (fun _=>hK0) (fun T=>?_)⟩⟩
    have p:Mi b=J4 b:=by unfold Mi;rw [iN r]
    rw [p]
    exact ⟨rfl,rfl,by omega⟩
  ·rintro C z Q R t ⟨o,rfl,D⟩
   simp only [aD,aK,and_true,true_and] at o
   obtain ⟨_,_,rfl,rfl⟩:=o
   obtain ⟨q,w⟩:=f.isNum.2 D
   have c:=f.of_txt w
   have m:Mi b<1000000000:=by unfold Mi;split<;>omega
   refine ⟨fun L d=>L=[I q.num,I (q.den:Int)]/\d=t,Br.of (fun e=>?_) (fun e=>?_),?_⟩
   ·rw [c.1,c.2,e,B7 (by omega) (by omega)]
    exact ⟨by unfold Sd;simp,rfl⟩
   ·rw [c.1,c.2,e]
    exact ⟨by unfold Sd;simp,rfl⟩
   ·rintro M N E ⟨n,rfl⟩
    simp only [aD,aK,and_true,true_and] at n
    obtain ⟨rfl,rfl⟩:=n
    exact hK1 q w (by rw [c.1,j];omega) (by rw [c.2];exact m)
 ·intro S neg a b
  refine ⟨_,_,_,_,rfl,?_⟩
  refine ⟨fun L i=>L=[.bool true]/\i=h,O9 ⟨rfl,rfl⟩,?_⟩
  rintro g i ⟨s,rfl⟩
  obtain rfl:g=true:=by simpa using s
  exact Br.of (fun _=>hK0) (fun e=>by cases e)
def Ac{l':List UInt8}(hK1:∀ p q,l=I9 p->l'=I9 q->p.num.natAbs<1000000000->p.den<1000000000->q.num.natAbs<1000000000->q.den<1000000000->K (.tuple #[.agg #[I p.num,I (p.den:Int)],.agg #[I q.num,I (q.den:Int)],.bool true]) h)(hK0:K (.tuple #[.agg #[I 0,I 0],.agg #[I 0,I 0],.bool false]) h):aF prog X7 #[.string (bs l),.string (bs l')] h K:=by
 refine A7d _ _ ?_
 unfold A99
 refine Dr ?_ ⟨_,_,_,rfl,O9 hK0⟩
 intro p c f b
 refine ⟨_,_,_,rfl,O9 ?_⟩
 refine Dr ?_ ⟨_,_,_,rfl,O9 hK0⟩
 intro q a d e
 exact ⟨_,_,_,rfl,O9 (hK1 p q c a f b d e)⟩
def S5{num den:Int}(gp:Gp h)(hd:den≠0)(h1:num.natAbs<4000000000000000000)(h2:den.natAbs<4000000000000000000)(hK:K (.string (bs (I9 (bL num den)))) h):aF prog P7 #[I num,I den] h K:=by
 refine FCall.pure (Wr _ _ ?_)
 unfold Sj
 refine ⟨fun L y=>y=h/\∃ n d:Int,L=[I n,I d]/\0<d/\bL n d=bL num den/\n.natAbs=num.natAbs/\d.natAbs=den.natAbs,B6 (fun j=>⟨rfl,-num,-den,?_,by omega,Rat.neg_divInt_neg num den,by omega,by omega⟩) (fun j=>⟨rfl,num,den,rfl,by omega,rfl,rfl,rfl⟩),?_⟩
 ·rw [B7 (by omega) (by omega),B7 (by omega) (by omega),Int.zero_sub,Int.zero_sub]
 rintro f p y ⟨rfl,n,d,D,u,V,hn,G⟩
 simp only [aD,aK,and_true,true_and] at D
 obtain ⟨rfl,rfl⟩:=D
 rw [<- V] at hK
 have g:=A4d (x:=f) u
 have M:=Vt (a:=f) (b:=p) (by omega)
 generalize bL f p=q at *
 have W:=q.den_nz
 refine ⟨fun L w=>w=y/\L=[I q.num,I (q.den:Int)],I3 (fun j=>?_) (fun j=>?_),?_⟩
 ·have C:(if (B4 (0-f))>f then B4 (0-f) else f)=((f.natAbs:Nat):Int):=by
   rw [B7 (by omega) (by omega)];split<;>omega
  obtain ⟨k,rfl⟩:∃ k:Nat,p=k:=⟨p.toNat,by omega⟩
  rw [C]
  refine A2v ⟨_,rfl,?_⟩
  have R:0<aQ f.natAbs k:=dG _ (by omega)
  refine B6 (fun e=>by omega) (fun _=>B6 (fun e=>by omega) (fun _=>⟨rfl,?_⟩))
  have A:Int.tdiv f ((aQ f.natAbs k:Nat):Int)=q.num:=g.1.symm
  have Z:Int.tdiv (k:Int) ((aQ f.natAbs k:Nat):Int)=(q.den:Int):=g.2.symm
  rw [A,Z,B7 (by omega) (by omega),B7 (by omega) (by omega)]
 ·subst j
  have O:aS f 1=1:=by simp
  rw [O] at g
  simp at g
  refine ⟨rfl,?_⟩
  rw [g.1]
  simp only [aD,aK,and_true,true_and];omega
 rintro n2 d2 l ⟨rfl,m⟩
 simp only [aD,aK,and_true,true_and] at m
 obtain ⟨rfl,rfl⟩:=m
 refine D8 (fun j=>?_) (fun j=>?_)
 ·rw [A02 (by omega)] at hK
  exact Kj gp (by omega) (by omega) ⟨_,rfl,B3 _,hK⟩
 ·rw [A2r (by omega)] at hK
  refine Dn B81 ?_
  intro b Q
  have F:(Value.agg (cI 48 (.int .u8 0))).cells=(aE 48 (bW .u8 0)).toArray:=by rfl
  rw [F]
  refine ⟨_,rfl,⟨by omega,by omega⟩,?_⟩
  have o:J9 (some ⟨b,0,none⟩) 48 0 1=some ⟨b,0,none⟩:=rfl
  rw [o,show ((0:Int)).toNat-0=0 from rfl,show 48-0=48 from rfl]
  have p0:cR (l.put b (.cells (aE 48 (bW .u8 0)).toArray B1q)) l B1q 1 (some ⟨b,0,none⟩) 0 48 (yv []):=⟨by simp [yv],by omega,.inr ⟨b,aE 48 (bW .u8 0),rfl,Q,rfl,by simp,by simp [yv]⟩⟩
  refine Ko gp p0 (by omega) (by omega) (by omega) ?_
  intro A1 S c1 C g1 E t
  refine ⟨_,_,_,rfl,?_⟩
  have T:(Hl q.num).length<=20:=by
   unfold Hl
   have:(N8 q.num.natAbs).length<=19:=(Ov (by decide)).2 (aU (show q.num.natAbs<10000000000000000000 by omega) (by decide))
   split<;>simp<;>omega
  have H:=t.len
  refine Fx (ch:=47) rfl t.priv (by omega) ?_
  intro A2 J c2 e2 g2 X B
  have i:=t.trans B
  have s:=i.len
  rw [aL,cK] at s
  refine Ko (gp.mono i.le) B.priv (by omega) (by omega) (by omega) ?_
  intro A3 aa c3 A g3 N z
  refine ⟨_,_,_,rfl,?_⟩
  rw [aR] at z
  have c:=i.trans z
  have r:=c.len
  refine Jq Eg.und Cm T1 c.priv.slV (by simpa using r) ⟨_,rfl,?_⟩
  refine ⟨Heap.le_trans c.le c.priv.le,?_⟩
  simpa using hK
end
structure RQ (h:aV) (w:QV) (q:Rat):Prop where
 num:ZI h w.s w.A w.n w.c q.num
 den:ZI h w.s2 w.A2 w.n2 w.c2 (if q.den=1 then 0 else (q.den:Int))
def ZB.gcd{m:Nat}{x y:Int}(hy:y≠0)(h:ZB m y):ZB m (aS x y:Int):=by
 refine h.le ?_
 rw [aC]
 exact dF (by omega) (Int.natAbs_dvd_natAbs.2 (Int.gcd_dvd_right x y))
def C0s{x y a b:Int}(ha:0<a)(hb:0<b)(hs:x.sign≠y.sign):Ey (x*a) (y*b)=Ey x y:=by
 have f:(x*a).sign=x.sign:=by rw [Int.sign_mul,aJ ha,Int.mul_one]
 have d:(y*b).sign=y.sign:=by rw [Int.sign_mul,aJ hb,Int.mul_one]
 have key:∀ u v:Int,u.sign≠v.sign->(u<v↔u.sign<v.sign)/\(v<u↔v.sign<u.sign):=by
  intro u v h
  have t:∀ w:Int,(w<0/\w.sign= -1)\/(w=0/\w.sign=0)\/(0<w/\w.sign=1):=fun w=>by
   rcases Int.lt_trichotomy w 0 with c|c|c
   ·exact .inl ⟨c,bN c⟩
   ·exact .inr (.inl ⟨c,by rw [c];rfl⟩)
   ·exact .inr (.inr ⟨c,aJ c⟩)
  have k:=t u
  have l:=t v
  omega
 have j:=key x y hs
 have g:=key (x*a) (y*b) (by rw [f,d];exact hs)
 rw [f,d] at g
 unfold Ey
 by_cases c:x<y
 ·rw [iP c,iP (g.1.2 (j.1.1 c))]
 ·rw [iN c,iN (fun e=>c (j.1.2 (g.1.1 e)))]
  by_cases i:y<x
  ·rw [iP i,iP (g.2.2 (j.2.1 i))]
  ·rw [iN i,iN (fun e=>i (j.2.2 (g.2.1 e)))]
section
variable {h h':aV} {K:VP} {A B:Option aO} {n c n' c':Nat} {s s':Bool} {x y z:Int} {m:Nat} {p q:Rat} {a b w:QV} {l:List UInt8}
def RQ.mono(hl:h.le h')(i:RQ h w q):RQ h' w q:=⟨i.num.mono hl,i.den.mono hl⟩
def RQ.whole(i:ZI h s A n c z):RQ h ⟨s,A,n,c,false,none,0,0⟩ (z:Rat):=⟨by simpa using i,by simpa using ZI.zero⟩
def RQ.zero:RQ h ⟨false,none,0,0,false,none,0,0⟩ 0:=⟨ZI.zero,ZI.zero⟩
def N7(i:RQ h w q)(hK:K (.bool (decide (q.den=1))) h):aF prog E8 #[.agg #[.bool w.s2,.slice w.A2 w.n2 w.c2]] h K:=by
 refine F9 i.den ?_
 have:=q.den_nz
 have e:decide ((if q.den=1 then (0:Int) else (q.den:Int))=0)=decide (q.den=1):=by
  rw [decide_eq_decide];split<;>omega
 rw [e];exact hK
def S8(i:ZI h s A n c z)(j:ZI h s' B n' c' y)(h1:q.num=z)(h2:(q.den:Int)=y)(hK:∀ w,RQ h w q->K w.v h):aF prog U9 #[.agg #[.bool s,.slice A n c],.agg #[.bool s',.slice B n' c']] h K:=by
 subst h1 h2
 refine B0u _ _ _ _ _ _ _ _ ?_
 unfold B55
 refine Q4 j ⟨_,rfl,B6 (fun e=>?_) (fun e=>?_)⟩
 ·exact hK ⟨s,A,n,c,false,none,0,0⟩ ⟨i,by rw [iP (by omega)];exact ZI.zero⟩
 ·exact hK ⟨s,A,n,c,s',B,n',c'⟩ ⟨i,by rw [iN (by omega)];exact j⟩
def Ej(i:RQ h w q)(hK:∀ s A n c h',h.le h'->ZI h' s A n c (q.den:Int)->K (.agg #[.bool s,.slice A n c]) h'):aF prog Ry #[w.v] h K:=by
 refine C2h _ _ _ _ _ _ _ _ ?_
 unfold C6t
 refine N7 i ⟨_,rfl,B6 (fun e=>?_) (fun e=>?_)⟩
 ·refine Ec (by decide) (by decide) ?_
  intro s A n c d b a
  exact ⟨_,_,_,_,rfl,hK _ _ _ _ _ b (by rw [e];exact a)⟩
 ·have:=i.den
  rw [iN e] at this
  exact hK _ _ _ _ _ (B3 _) this
def Vz(gl:Gtz h)(i:ZI h s A n c x)(j:ZI h s' B n' c' y)(hx:ZB m x)(hy:ZB m y)(hm:m<=6400000000)(hy0:0<y)(hK:∀ s1 A1 n1 c1 s2 A2 n2 c2 h',h.le h'->ZI h' s1 A1 n1 c1 (x.tdiv (aS x y))->ZI h' s2 A2 n2 c2 (y.tdiv (aS x y))->K (.tuple #[.agg #[.bool s1,.slice A1 n1 c1],.agg #[.bool s2,.slice A2 n2 c2]]) h'):aF prog Of #[.agg #[.bool s,.slice A n c],.agg #[.bool s',.slice B n' c']] h K:=by
 refine B0v _ _ _ _ _ _ _ _ ?_
 unfold B57
 refine Q4 j ⟨_,rfl,B6 (fun e=>?_) (fun e=>?_)⟩
 ·subst e
  have k:aS x 1=1:=by simp
  rw [k] at hK
  exact hK _ _ _ _ _ _ _ _ _ (B3 _) (by simpa using i) (by simpa using j)
 ·refine Cj gl i j hx hy hm ?_
  intro A1 n1 c1 w d g
  have k:=Int.gcd_pos_of_ne_zero_right x (show y≠0 by omega)
  have a:ZB m (aS x y:Int):=ZB.gcd (by omega) hy
  refine ⟨_,_,_,_,rfl,Q3 (i.mono d) g hx a hm (by omega) ?_⟩
  intro s2 A2 n2 c2 r b l
  refine ⟨_,_,_,_,rfl,b,Q3 (j.mono (Heap.le_trans d b)) (g.mono b) hy a hm (by omega) ?_⟩
  intro u A3 q p t f o
  exact ⟨_,_,_,_,rfl,f,hK _ _ _ _ _ _ _ _ _ (Heap.le_trans d (Heap.le_trans b f)) (l.mono f) o⟩
def Yi(i:RQ h w q)(hK:∀ w',RQ h w' (-q)->K w'.v h):aF prog A8n #[w.v] h K:=by
 refine C2e _ _ _ _ _ _ _ _ ?_
 unfold C6q
 refine T8 i.num ?_
 intro a b
 exact ⟨_,_,_,_,rfl,B3 _,hK ⟨a,w.A,w.n,w.c,w.s2,w.A2,w.n2,w.c2⟩ ⟨by simpa using b,by simpa using i.den⟩⟩
def Fu(i:RQ h w q)(hK:K (I q.num.sign) h):aF prog Qm #[w.v] h K:=by
 refine B8b _ _ _ _ _ _ _ _ ?_
 unfold C47
 exact Eb i.num ⟨_,rfl,hK⟩
def A3c(i:RQ h w q)(hK:K (.bool (decide (q=0))) h):aF prog Og #[w.v] h K:=by
 refine B0y _ _ _ _ _ _ _ _ ?_
 unfold B5c
 refine F9 i.num ⟨_,rfl,?_⟩
 have e:decide (q.num=0)=decide (q=0):=by rw [decide_eq_decide];exact cC
 rw [e];exact hK
def Yl(gl:Gtz h)(i:RQ h a p)(j:RQ h b q)(hp:Sz m p)(hq:Sz m q)(hm:2*m+1<=6400000000)(hK:∀ w h',h.le h'->RQ h' w (p+q)->K w.v h'):aF prog A8q #[a.v,b.v] h K:=by
 have an:=p.den_nz
 have ap:=q.den_nz
 have M:∀ {z:Int},ZB m z->ZB (2*m+1) z:=fun s=>s.mono (by omega)
 refine C2i _ _ _ _ _ _ _ _ _ _ _ _ _ _ _ _ ?_
 unfold C6u
 refine ⟨fun L hp=>L=[.bool (decide (p.den=1/\q.den=1))]/\hp=h,N7 i ⟨_,rfl,B6 (fun e=>?_) (fun e=>?_)⟩,?_⟩
 ·exact N7 j ⟨_,rfl,by simp [e],rfl⟩
 ·exact ⟨by simp [e],rfl⟩
 rintro aj ag ⟨hL,rfl⟩
 obtain rfl:aj=decide (p.den=1/\q.den=1):=by simpa using hL
 refine B6 (fun e=>?_) (fun e=>?_)
 ·refine Hq i.num j.num hp.num hq.num (by omega) ?_
  intro s1 A1 n1 c1 h1 d X
  refine ⟨_,_,_,_,rfl,hK ⟨s1,A1,n1,c1,false,none,0,0⟩ _ d ?_⟩
  have:=RQ.whole X
  rw [cZ,<- Yt e.1,<- Yt e.2] at this
  exact this
 ·refine ⟨fun L hp=>L=[.bool (decide (p.den=1))]/\hp=ag,N7 i ⟨_,rfl,rfl,rfl⟩,?_⟩
  rintro ad au ⟨hL,rfl⟩
  obtain rfl:ad=decide (p.den=1):=by simpa using hL
  refine B6 (fun J=>?_) (fun J=>?_)
  ·have af:q.den≠1:=fun H=>e ⟨J,H⟩
   have jd:=j.den
   rw [iN af] at jd
   refine L4 i.num jd hp.num hq.den (by omega) ?_
   intro s1 A1 n1 c1 h1 d X
   refine ⟨_,_,_,_,rfl,d,Hq (m:=2*m+1) X (j.num.mono d) ((hp.num.mul hq.den).mono (by omega)) (M hq.num) hm ?_⟩
   intro s2 A2 n2 c2 h2 n i2
   have c:=Oz q p.num
   rw [<- Yt J,Rat.add_comm] at c
   refine ⟨_,_,_,_,rfl,n,hK ⟨s2,A2,n2,c2,b.s2,b.A2,b.n2,b.c2⟩ _ (Heap.le_trans d n) ⟨by rw [c.1];exact i2,?_⟩⟩
   rw [c.2]
   exact j.den.mono (Heap.le_trans d n)
  ·refine N7 j ⟨_,rfl,B6 (fun H=>?_) (fun H=>?_)⟩
   ·have k:=i.den
    rw [iN J] at k
    refine L4 j.num k hq.num hp.den (by omega) ?_
    intro s1 A1 n1 c1 h1 d X
    refine ⟨_,_,_,_,rfl,d,Hq (m:=2*m+1) X (i.num.mono d) ((hq.num.mul hp.den).mono (by omega)) (M hp.num) hm ?_⟩
    intro s2 A2 n2 c2 h2 n i2
    have c:=Oz p q.num
    rw [<- Yt H] at c
    refine ⟨_,_,_,_,rfl,n,hK ⟨s2,A2,n2,c2,a.s2,a.A2,a.n2,a.c2⟩ _ (Heap.le_trans d n) ⟨by rw [c.1];exact i2,?_⟩⟩
    rw [c.2]
    exact i.den.mono (Heap.le_trans d n)
   ·have k:=i.den
    have o:=j.den
    rw [iN J] at k
    rw [iN H] at o
    refine Cj gl k o hp.den hq.den (by omega) ?_
    intro A1 n1 c1 h1 d G
    rw [dK] at G
    obtain ⟨g,hg⟩:∃ g,g=p.den.gcd q.den:=⟨_,rfl⟩
    rw [<- hg] at G
    have R:0<g:=by rw [hg];exact Nat.gcd_pos_of_pos_left _ (by omega)
    have ae:g∣q.den:=by rw [hg];exact bV ..
    have t:ZB m (g:Int):=hq.den.le (by simpa using dF (by omega) ae)
    refine ⟨_,_,_,_,rfl,Q3 (o.mono d) G hq.den t (by omega) (by omega) ?_⟩
    intro s2 A2 n2 c2 h2 n il
    rw [<- cL] at il
    refine ⟨_,_,_,_,rfl,n,Q3 (k.mono (Heap.le_trans d n)) (G.mono n) hp.den t (by omega) (by omega) ?_⟩
    intro s3 A3 n3 c3 h3 T ir
    rw [<- cL] at ir
    have C:ZB m ((q.den/g:Nat):Int):=hq.den.le (by rw [aC,aC];exact aZ _ _)
    have x:ZB m ((p.den/g:Nat):Int):=hp.den.le (by rw [aC,aC];exact aZ _ _)
    have A:=Heap.le_trans d (Heap.le_trans n T)
    refine ⟨_,_,_,_,rfl,T,L4 (i.num.mono A) (il.mono T) hp.num C (by omega) ?_⟩
    intro s4 A4 n4 c4 h4 E i4
    refine ⟨_,_,_,_,rfl,E,L4 (j.num.mono (Heap.le_trans A E)) (ir.mono E) hq.num x (by omega) ?_⟩
    intro s5 A5 n5 c5 h5 F i5
    refine ⟨_,_,_,_,rfl,F,Hq (m:=2*m) (i4.mono F) i5 ((hp.num.mul C).mono (by omega)) ((hq.num.mul x).mono (by omega)) (by omega) ?_⟩
    intro s6 A6 n6 c6 h6 Q N
    obtain ⟨z,s⟩:∃ z,z=p.num*((q.den/g:Nat):Int)+q.num*((p.den/g:Nat):Int):=⟨_,rfl⟩
    rw [<- s] at N
    have W:ZB (2*m+1) z:=by
     rw [s]
     exact ((hp.num.mul C).mono (show m+m<=2*m by omega)).add ((hq.num.mul x).mono (show m+m<=2*m by omega))
    have f:=Heap.le_trans A (Heap.le_trans E (Heap.le_trans F Q))
    refine ⟨_,_,_,_,rfl,Q,F9 N ⟨_,rfl,B6 (fun B=>?_) (fun B=>?_)⟩⟩
    ·have:p+q=0:=by
      rw [<- cC]
      by_cases u:p.den.gcd q.den=1
      ·have:=(Zd p q u).1
       rw [<- hg] at u
       rw [u,cX,cX] at s
       rw [this,<- s,B]
      ·have:=(Zc p q u hg s rfl).1
       rw [this,B];simp
     rw [this] at hK
     exact hK ⟨false,none,0,0,false,none,0,0⟩ _ f RQ.zero
    ·refine Q4 (G.mono (Heap.le_trans n (Heap.le_trans T (Heap.le_trans E (Heap.le_trans F Q))))) ⟨_,rfl,B6 (fun ak=>?_) (fun ak=>?_)⟩
     ·have l:g=1:=by omega
      have c:=Zd p q (by rw [<- hg];exact l)
      rw [l,cX,cX] at s
      refine L4 (k.mono f) (o.mono f) hp.den hq.den (by omega) ?_
      intro s7 A7 n7 c7 h7 y O
      refine ⟨_,_,_,_,rfl,y,S8 (q:=p+q) (N.mono y) O (by rw [c.1,s]) (by rw [c.2,aP]) ?_⟩
      intro w iw
      exact ⟨_,_,_,_,_,_,_,_,rfl,B3 _,hK _ _ (Heap.le_trans f y) iw⟩
     ·have l:p.den.gcd q.den≠1:=by rw [<- hg];omega
      obtain ⟨r,hr⟩:∃ r,r=z.natAbs.gcd g:=⟨_,rfl⟩
      have c:=Zc p q l hg s hr
      have ar:0<r:=by rw [hr];exact dG _ R
      have ai:r<=g:=by rw [hr];exact dF R (bV ..)
      have aa:=G.mono (Heap.le_trans n (Heap.le_trans T (Heap.le_trans E (Heap.le_trans F Q))))
      refine Cj (gl.mono f) N aa W (M t) hm ?_
      intro A7 n7 c7 h7 y O
      have e7:aS z (g:Int)=r:=hr.symm
      rw [e7] at O
      have V:ZB m (r:Int):=t.le (by simpa using ai)
      refine ⟨_,_,_,_,rfl,Q3 (N.mono y) O W (M V) hm (by omega) ?_⟩
      intro s8 A8 n8 c8 h8 S i8
      refine ⟨_,_,_,_,rfl,S,Q3 (o.mono (Heap.le_trans f (Heap.le_trans y S))) (O.mono S) hq.den V (by omega) (by omega) ?_⟩
      intro s9 A9 n9 c9 h9 Z i9
      rw [<- cL] at i9
      have ah:ZB m ((q.den/r:Nat):Int):=hq.den.le (by rw [aC,aC];exact aZ _ _)
      refine ⟨_,_,_,_,rfl,Z,L4 (ir.mono (Heap.le_trans E (Heap.le_trans F (Heap.le_trans Q (Heap.le_trans y (Heap.le_trans S Z)))))) i9 x ah (by omega) ?_⟩
      intro ao A10 aq am al D ac
      refine ⟨_,_,_,_,rfl,D,S8 (q:=p+q) (i8.mono (Heap.le_trans Z D)) ac c.1 (by rw [c.2,aP]) ?_⟩
      intro w iw
      exact ⟨_,_,_,_,_,_,_,_,rfl,B3 _,hK _ _ (Heap.le_trans f (Heap.le_trans y (Heap.le_trans S (Heap.le_trans Z D)))) iw⟩
def A9x(gl:Gtz h)(i:RQ h a p)(j:RQ h b q)(hp:Sz m p)(hq:Sz m q)(hm:2*m+1<=6400000000)(hK:∀ w h',h.le h'->RQ h' w (p-q)->K w.v h'):aF prog B3s #[a.v,b.v] h K:=by
 refine C2d _ _ _ _ _ _ _ _ _ _ _ _ _ _ _ _ ?_
 unfold C6p
 refine Yi j ?_
 intro f e
 refine ⟨_,_,_,_,_,_,_,_,rfl,B3 _,Yl gl i e hp hq.neg hm ?_⟩
 intro k g d c
 rw [<- Rat.sub_eq_add_neg] at c
 exact ⟨_,_,_,_,_,_,_,_,rfl,d,hK _ _ d c⟩
end
structure Gl (h:aV):Prop where
 tz:Gtz h
 p10:Gp h
def Gl.mono{h h':aV}(g:Gl h)(l:h.le h'):Gl h':=⟨g.tz.mono l,g.p10.mono l⟩
section
variable {h h':aV} {K:VP} {A B:Option aO} {n c n' c':Nat} {s s':Bool} {x y z:Int} {m:Nat} {p q:Rat} {a b w:QV} {l:List UInt8}
def Yj(gl:Gtz h)(i:RQ h a p)(j:RQ h b q)(hp:Sz m p)(hq:Sz m q)(hm:m<=6400000000)(hK:∀ w h',h.le h'->RQ h' w (p*q)->K w.v h'):aF prog A8o #[a.v,b.v] h K:=by
 have S:=p.den_nz
 have O:=q.den_nz
 refine C2f _ _ _ _ _ _ _ _ _ _ _ _ _ _ _ _ ?_
 unfold C6r
 refine ⟨fun L hp=>L=[.bool (decide (p.num=0\/q.num=0))]/\hp=h,F9 i.num ⟨_,rfl,B6 (fun e=>?_) (fun e=>?_)⟩,?_⟩
 ·exact ⟨by simp [e],rfl⟩
 ·exact F9 j.num ⟨_,rfl,by simp [e],rfl⟩
 rintro y o ⟨x,rfl⟩
 obtain rfl:y=decide (p.num=0\/q.num=0):=by simpa using x
 refine B6 (fun e=>?_) (fun e=>?_)
 ·have:p*q=0:=by
   rw [cC,cC] at e
   exact Rat.mul_eq_zero.2 e
  rw [this] at hK
  exact hK ⟨false,none,0,0,false,none,0,0⟩ _ (B3 _) RQ.zero
 ·refine ⟨fun L hp=>L=[.bool (decide (p.den=1/\q.den=1))]/\hp=o,N7 i ⟨_,rfl,B6 (fun e=>?_) (fun e=>?_)⟩,?_⟩
  ·exact N7 j ⟨_,rfl,by simp [e],rfl⟩
  ·exact ⟨by simp [e],rfl⟩
  rintro r V ⟨x,rfl⟩
  obtain rfl:r=decide (p.den=1/\q.den=1):=by simpa using x
  refine B6 (fun e=>?_) (fun e=>?_)
  ·refine L4 i.num j.num hp.num hq.num hm ?_
   intro D A1 z c1 H f G
   refine ⟨_,_,_,_,rfl,hK ⟨D,A1,z,c1,false,none,0,0⟩ _ f ?_⟩
   have:=RQ.whole G
   rw [Rat.intCast_mul,<- Yt e.1,<- Yt e.2] at this
   exact this
  ·have g:=B38 p q
   refine Ej j ?_
   intro D A1 z c1 H f N
   refine ⟨_,_,_,_,rfl,f,Vz (gl.mono f) (i.num.mono f) N hp.num hq.den hm (by omega) ?_⟩
   intro s2 A2 n2 c2 s3 A3 n3 c3 Z C A u
   have c:=Heap.le_trans f C
   refine ⟨_,_,_,_,_,_,_,_,rfl,C,Ej (i.mono c) ?_⟩
   intro s4 A4 n4 c4 h4 d s
   refine ⟨_,_,_,_,rfl,d,Vz (gl.mono (Heap.le_trans c d)) (j.num.mono (Heap.le_trans c d)) s hq.num hp.den hm (by omega) ?_⟩
   intro s5 A5 n5 c5 s6 A6 n6 W h5 k B n
   have M:aS p.num (q.den:Int)=aQ p.num.natAbs q.den:=rfl
   have F:aS q.num (p.den:Int)=aQ q.num.natAbs p.den:=rfl
   rw [M] at A u
   rw [F] at B n
   rw [<- cL] at u n
   refine ⟨_,_,_,_,_,_,_,_,rfl,k,L4 (A.mono (Heap.le_trans d k)) B hp.num.tdiv hq.num.tdiv hm ?_⟩
   intro s7 A7 n7 c7 X l E
   have J:ZB m ((p.den/aQ q.num.natAbs p.den:Nat):Int):=hp.den.le (by rw [aC,aC];exact aZ _ _)
   have Q:ZB m ((q.den/aQ p.num.natAbs q.den:Nat):Int):=hq.den.le (by rw [aC,aC];exact aZ _ _)
   refine ⟨_,_,_,_,rfl,l,L4 (n.mono l) (u.mono (Heap.le_trans d (Heap.le_trans k l))) J Q hm ?_⟩
   intro s8 A8 n8 c8 h8 t R
   refine ⟨_,_,_,_,rfl,t,S8 (q:=p*q) (E.mono t) R g.1 (by rw [g.2,aP]) ?_⟩
   intro w T
   exact ⟨_,_,_,_,_,_,_,_,rfl,B3 _,hK _ _ (Heap.le_trans c (Heap.le_trans d (Heap.le_trans k (Heap.le_trans l t)))) T⟩
def A0f(i:RQ h w q)(hK:∀ w h',h.le h'->RQ h' w q⁻¹->K w.v h'):aF prog Qn #[w.v] h K:=by
 have m:=q.den_nz
 refine A7i _ _ _ _ _ _ _ _ ?_
 unfold A9d
 refine Eb i.num ⟨_,rfl,D8 (fun e=>?_) (fun e=>?_)⟩
 ·have d:q.num=0:=Int.sign_eq_zero_iff_zero.1 e
  have:q⁻¹=0:=by rw [Rat.num_eq_zero.1 d];exact Rat.inv_zero
  rw [this] at hK
  exact hK ⟨false,none,0,0,false,none,0,0⟩ _ (B3 _) RQ.zero
 ·have d:q.num≠0:=fun r=>e (by rw [r];rfl)
  refine D8 (fun f=>?_) (fun f=>?_)
  ·have k:q.num<0:=Int.sign_neg_iff.1 (by omega)
   refine Ej i ?_
   intro n A1 o c1 b a g
   refine ⟨_,_,_,_,rfl,a,T8 g ?_⟩
   intro s l
   refine ⟨_,_,_,_,rfl,B3 _,T8 (i.num.mono a) ?_⟩
   intro t p
   refine ⟨_,_,_,_,rfl,B3 _,S8 (q:=q⁻¹) l p ?_ ?_ ?_⟩
   ·rw [Rat.num_inv,f];omega
   ·rw [Rat.den_inv,iN d];omega
   ·intro w j
    exact ⟨_,_,_,_,_,_,_,_,rfl,B3 _,hK _ _ a j⟩
  ·have c:0<q.num:=by
    rcases Int.lt_trichotomy q.num 0 with b|b|b
    ·exact absurd (bN b) f
    ·exact absurd b d
    ·exact b
   refine Ej i ?_
   intro n A1 o c1 b a g
   refine ⟨_,_,_,_,rfl,a,S8 (q:=q⁻¹) g (i.num.mono a) ?_ ?_ ?_⟩
   ·rw [Rat.num_inv,aJ c,Int.one_mul]
   ·rw [Rat.den_inv,iN d];omega
   ·intro w j
    exact ⟨_,_,_,_,_,_,_,_,rfl,B3 _,hK _ _ a j⟩
def A9z(gl:Gtz h)(i:RQ h a p)(j:RQ h b q)(hp:Sz m p)(hq:Sz m q)(hm1:1<=m)(hm:m<=6400000000)(hK:∀ w h',h.le h'->RQ h' w (p/q)->K w.v h'):aF prog A8p #[a.v,b.v] h K:=by
 refine C2g _ _ _ _ _ _ _ _ _ _ _ _ _ _ _ _ ?_
 unfold C6s
 refine A0f j ?_
 intro l n c f
 refine ⟨_,_,_,_,_,_,_,_,rfl,c,Yj (gl.mono c) (i.mono c) f hp (hq.inv hm1) hm ?_⟩
 intro k g e d
 rw [<- Rat.div_def] at d
 exact ⟨_,_,_,_,_,_,_,_,rfl,e,hK _ _ (Heap.le_trans c e) d⟩
def Rr(i:RQ h w q)(hq:Sz m q)(hm:m+1<=6400000000)(hK:∀ s A n c h',h.le h'->ZI h' s A n c q.floor->K (.agg #[.bool s,.slice A n c]) h'):aF prog Tn #[w.v] h K:=by
 have f:=q.den_nz
 refine B5d _ _ _ _ _ _ _ _ ?_
 unfold B9w
 rw [Rat.floor_def] at hK
 refine N7 i ⟨_,rfl,B6 (fun e=>?_) (fun e=>?_)⟩
 ·rw [e] at hK
  exact hK _ _ _ _ _ (B3 _) (by simpa using i.num)
 ·have a:=i.den
  rw [iN e] at a
  refine Xe i.num a hq.num hq.den hm (by omega) ?_
  intro g A1 j c1 k d b
  exact ⟨_,_,_,_,rfl,hK _ _ _ _ _ d b⟩
def B00(i:RQ h w q)(hq:Sz m q)(hm:m+1<=6400000000)(hK:∀ s A n c h',h.le h'->ZI h' s A n c q.ceil->K (.agg #[.bool s,.slice A n c]) h'):aF prog A6r #[w.v] h K:=by
 refine B8c _ _ _ _ _ _ _ _ ?_
 unfold C48
 refine Yi i ?_
 intro j d
 refine ⟨_,_,_,_,_,_,_,_,rfl,Rr d hq.neg hm ?_⟩
 intro l A2 f c2 g e b
 refine ⟨_,_,_,_,rfl,T8 b ?_⟩
 intro k a
 rw [<- dD] at a
 exact ⟨_,_,_,_,rfl,hK _ _ _ _ _ e a⟩
def B7r(p q:Rat):Int:=Ey (p.num*q.den) (q.num*p.den)
def B4c:B7r p q<0↔p<q:=by rw [aX];unfold B7r Ey;split<;>(try split)<;>omega
def C1r:0<B7r p q↔q<p:=by rw [aX];unfold B7r Ey;split<;>(try split)<;>omega
def B4d:B7r p q<=0↔p<=q:=by rw [<- Rat.not_lt,<- C1r];omega
def A0g(i:RQ h a p)(j:RQ h b q)(hp:Sz m p)(hq:Sz m q)(hm:2*m<=6400000000)(hK:K (I (B7r p q)) h):aF prog Qo #[a.v,b.v] h K:=by
 have u:=p.den_nz
 have s:=q.den_nz
 refine FCall.pure (A7j _ _ _ _ _ _ _ _ _ _ _ _ _ _ _ _ ?_)
 unfold A9e
 refine ⟨fun L hp=>L=[.bool (decide ((p.den=1/\q.den=1)\/p.num.sign≠q.num.sign))]/\hp=h,N7 i ⟨_,rfl,B3 _,B6 (fun e=>N7 j ⟨_,rfl,B3 _,B6 (fun g=>?_) (fun g=>?_)⟩) (fun e=>?_)⟩,?_⟩
 ·exact ⟨by simp [e,g],rfl⟩
 ·refine Fu i ⟨_,rfl,B3 _,Fu j ⟨_,rfl,B3 _,?_,rfl⟩⟩
  simp [g,bne]
  rw [bJ];simp
 ·refine Fu i ⟨_,rfl,B3 _,Fu j ⟨_,rfl,B3 _,?_,rfl⟩⟩
  simp [e,bne]
  rw [bJ];simp
 rintro l o ⟨x,rfl⟩
 obtain rfl:l=decide ((p.den=1/\q.den=1)\/p.num.sign≠q.num.sign):=by simpa using x
 refine B6 (fun e=>?_) (fun e=>?_)
 ·refine Mj i.num j.num hp.num hq.num (by omega) ⟨_,rfl,B3 _,?_⟩
  have:Ey p.num q.num=B7r p q:=by
   unfold B7r
   rcases e with e|e
   ·rw [e.1,e.2];simp
   ·exact (C0s (by omega) (by omega) e).symm
  rw [this];exact hK
 ·refine Ej j ?_
  intro M A1 B c1 D c w
  refine ⟨_,_,_,_,rfl,c,L4 (i.num.mono c) w hp.num hq.den (by omega) ?_⟩
  intro C A2 F c2 y d r
  refine ⟨_,_,_,_,rfl,d,Ej (i.mono (Heap.le_trans c d)) ?_⟩
  intro N A3 z H J f t
  refine ⟨_,_,_,_,rfl,f,L4 (j.num.mono (Heap.le_trans c (Heap.le_trans d f))) t hq.num hp.den (by omega) ?_⟩
  intro G A4 A E O k n
  refine ⟨_,_,_,_,rfl,k,Mj (m:=m+m) (r.mono (Heap.le_trans f k)) n (hp.num.mul hq.den) (hq.num.mul hp.den) (by omega) ⟨_,rfl,B3 _,?_⟩⟩
  exact ⟨Heap.le_trans c (Heap.le_trans d (Heap.le_trans f k)),hK⟩
def Ra{t:List UInt8}{k:Nat}(h:∀ c∈t,G9 c)(hk:t.length<=k):ZB (4*k) (J4 t:Int):=by
 unfold ZB
 rw [aC]
 exact aU (Cu h) (aM (by decide) (by omega))
def Form.lens{neg:Bool}{a b:List UInt8}(f:Form l neg a b):a.length<=l.length/\b.length<=l.length:=by
 have:=congrArg List.length f.eq
 simp only [aL] at this
 by_cases c:b=[]
 ·rw [iP c] at this;subst c;simp at this ⊢;omega
 ·rw [iN c] at this;simp at this;omega
def Yk(gl:Gtz h)(hl:l.length<=100000000)(hK1:∀ q,l=I9 q->∀ w h',h.le h'->RQ h' w q->K (.tuple #[w.v,.bool true]) h')(hK0:¬ IsNum l->∀ (w:QV) h',h.le h'->RQ h' w 0->K (.tuple #[w.v,.bool false]) h'):aF prog A16 #[.string (bs l)] h K:=by
 refine B89 _ ?_
 unfold C45
 refine Py (by omega) ?_ ?_
 ·intro neg a b f
  refine ⟨_,_,_,_,rfl,O9 ?_⟩
  have G:=f.lens
  refine Jt f.da (by omega) ?_
  intro A1 E c1 F t D
  refine ⟨_,_,_,_,rfl,?_⟩
  refine ⟨fun L Z=>∃ m:Bool,L=[.bool m,.slice A1 E c1,.bool false,.slice none 0 0]/\Z=F/\ZI F m A1 E c1 (Sd neg a),Br.of (fun e=>?_) (fun e=>?_),?_⟩
  ·refine T8 D ?_
   intro m o
   exact ⟨_,_,_,_,rfl,m,rfl,rfl,by unfold Sd;rw [e];exact o⟩
  ·exact ⟨false,rfl,rfl,by unfold Sd;rw [e];exact D⟩
  rintro M g j p x2 aa W S ac ⟨m,O,rfl,o⟩
  simp only [aD,aN,Value.bool.injEq,and_true] at O
  obtain ⟨rfl,⟨rfl,rfl,rfl⟩,rfl,rfl,rfl,rfl⟩:=O
  have c:(Sd neg a).natAbs=J4 a:=by unfold Sd;split<;>simp
  rw [Y2]
  refine B6 (fun r=>?_) (fun r=>?_)
  ·subst r
   obtain ⟨q,n⟩:=f.isNum.2 (by unfold Mi;simp)
   obtain ⟨x,A⟩:=f.of_txt n
   refine hK1 q n ⟨M,g,j,p,false,none,0,0⟩ _ t ⟨by rw [x];exact o,?_⟩
   rw [A,show Mi []=1 from rfl,iP rfl];exact ZI.zero
  ·refine Jt f.db (by omega) ?_
   intro A4 R T h4 i C
   have z:ZB (4*l.length) (Sd neg a):=(Ra f.da (k:=l.length) (by omega)).le (by rw [c,aC];exact bB _)
   refine ⟨_,_,_,_,rfl,Cj (gl.mono (Heap.le_trans t i)) (o.mono i) C z (Ra f.db (k:=l.length) (by omega)) (by omega) ?_⟩
   intro A5 n5 c5 h5 s V
   refine ⟨_,_,_,_,rfl,Q4 V ⟨_,rfl,?_⟩⟩
   have d:Mi b=J4 b:=by unfold Mi;rw [iN r]
   have y:aS (Sd neg a) (J4 b:Int)=aQ (J4 a) (Mi b):=by
    rw [d];show aQ (Sd neg a).natAbs (J4 b)=_;rw [c]
   rw [y]
   refine O9 (B6 (fun J=>?_) (fun J=>?_))
   ·obtain ⟨q,n⟩:=f.isNum.2 (by omega)
    obtain ⟨x,A⟩:=f.of_txt n
    have u:Mi b≠1:=by
     intro Q
     have H:=Ow f.db r (.inl f.hb)
     rw [<- d,Q] at H
     apply f.b1
     rw [<- H];simp [N8,T6,I8,dch]
    refine hK1 q n ⟨M,g,j,p,false,A4,R,T⟩ _ (Heap.le_trans t (Heap.le_trans i s)) ⟨by rw [x];exact o.mono (Heap.le_trans i s),?_⟩
    rw [A,iN u,d];exact C.mono s
   ·refine hK0 ?_ ⟨false,none,0,0,false,none,0,0⟩ _ (Heap.le_trans t (Heap.le_trans i s)) RQ.zero
    intro B
    exact J (by rw [f.isNum.1 B];rfl)
 ·intro X neg a b
  refine ⟨_,_,_,_,rfl,O9 ?_⟩
  refine hK0 ?_ ⟨false,none,0,0,false,none,0,0⟩ _ (B3 _) RQ.zero
  intro B
  obtain ⟨N,a',b',f⟩:=B.form
  exact X _ _ _ f
def L0(gl:Gtz h)(hl:l.length<=100000000)(hK:∀ w h',h.le h'->RQ h' w (rv l)->K w.v h'):aF prog N3 #[.string (bs l)] h K:=by
 refine B51 _ ?_
 unfold B9q
 refine Yk gl hl ?_ ?_
 ·intro q e w c b a
  exact ⟨_,_,_,_,_,_,_,_,_,rfl,hK w c b (by rw [e,D9];exact a)⟩
 ·intro d w c b a
  exact ⟨_,_,_,_,_,_,_,_,_,rfl,hK w c b (by rw [A85 d];exact a)⟩
def T2(gp:Gp h)(i:RQ h w q)(hq:Sz m q)(hm:m<=40000000)(hK:K (.string (bs (I9 q))) h):aF prog V3 #[w.v] h K:=by
 refine FCall.pure (B0w _ _ _ _ _ _ _ _ ?_)
 unfold B5a
 refine N7 i ⟨_,rfl,B6 (fun e=>?_) (fun e=>?_)⟩
 ·rw [A02 e] at hK
  refine A5k i.num (fun f n=>?_) (fun f=>?_)
  ·refine ⟨_,_,rfl,Br.of (fun _=>A7f _ ?_) (fun e=>by cases e)⟩
   unfold A9b
   exact Kj gp f n ⟨_,rfl,_,rfl,B3 _,hK⟩
  ·refine ⟨_,_,rfl,Br.of (fun e=>by cases e) (fun _=>?_)⟩
   exact Hn gp i.num hq.num (by omega) ⟨_,rfl,B3 _,hK⟩
 ·rw [A2r e] at hK
  have c:=i.den
  rw [iN e] at c
  refine Hp (l:=[]) (eT:=F8) gp (Priv.nil _ _ _ _) i.num hq.num (by omega) (by omega) ?_
  intro A1 y c1 A D f j
  refine ⟨_,_,_,rfl,?_⟩
  have r:(Hl q.num).length<=50000000:=by
   unfold Hl
   have:=Cv hq.num
   split<;>simp<;>omega
  have p:=j.len
  refine Fx (ch:=47) rfl j.priv (by omega) ?_
  intro A2 z c2 u t n o
  have b:=j.trans o
  have g:=b.len
  rw [aL,cK] at g
  refine Hp (gp.mono b.le) o.priv (c.mono b.le) hq.den (by omega) (by omega) ?_
  intro A3 x B s E C k
  refine ⟨_,_,_,rfl,?_⟩
  rw [aR] at k
  have a:=b.trans k
  have d:=a.len
  refine Jq Eg.und Cm T1 a.priv.slV (by simpa using d) ⟨_,rfl,?_⟩
  refine ⟨Heap.le_trans a.le a.priv.le,?_⟩
  simpa using hK
end
structure Tx (m:Nat) (l:List UInt8):Prop where
 len:l.length<=100000000
 sz:Sz m (rv l)
def B6i{m:Nat}{z:Int}(h:ZB m z):(Hl z).length<=m+2:=by
 have:=Cv h
 unfold Hl;split
 ·rw [cT];omega
 ·omega
def Mz{m:Nat}{q:Rat}(h:Sz m q):(I9 q).length<=2*m+4:=by
 have b:=B6i h.num
 have a:=Cv (n:=q.den) (m:=m) (by have:=h.den;unfold ZB at this;simpa using this)
 unfold I9
 split
 ·simp;omega
 ·simp;omega
def Tx.of{m:Nat}{q:Rat}(h:Sz m q)(hm:m<=40000000):Tx m (I9 q):=⟨by have:=Mz h;omega,by rw [D9];exact h⟩
def Ha{x y:Int}(hx:x.natAbs<1000000000)(hy:y.natAbs<1000000000):(x*y).natAbs<1000000000000000000:=by
 rw [Int.natAbs_mul]
 exact Nat.mul_lt_mul'' hx hy
def A2q(q:Rat):∃ c r,I9 q=c::r/\(c=45↔q<0):=by
 have f:=Hw q
 have a:I9 q≠[]:=by
  intro e
  have:=f.eq
  rw [e] at this
  have d:=f.ne
  have:=congrArg List.length this
  simp only [aL,List.length_nil] at this
  exact d (bG (by omega))
 obtain ⟨c,r,e⟩:=aY a
 refine ⟨c,r,e,?_⟩
 have b:=f.head
 rw [e,cG,bJ,decide_eq_true_iff,beq_iff_eq,aW] at b
 rw [<- b,aX];simp
def A7y{q:Rat}(h:q<0):I9 q=45::I9 (-q):=by
 have a:q.num<0:=by have:=(aX q 0).1 h;simpa using this
 unfold I9
 rw [Rat.neg_num,Rat.neg_den,Th a,Jp (i:= -q.num) (by omega),Int.natAbs_neg];simp
def C5y:rv [48]=0:=by
 have:[48]=I9 0:=by simp [I9,Hl,N8]
 rw [this,D9]
def B1u:I9 0=[48]:=by simp [I9,Hl,N8]
def Tl{m:Nat}{q:Rat}(h:Sz m q):ZB m q.floor:=by
 rw [Rat.floor_def]
 exact h.num.le (Int.natAbs_ediv_le_natAbs _ _)
section
variable {h:aV} {K:VP} {m:Nat} {a b:List UInt8}
def By(gl:Gl h)(hl:a.length<=100000000)(hK1:IsNum a->K (.bool true) h)(hK0:¬ IsNum a->K (.bool false) h):aF prog Dd #[.string (bs a)] h K:=by
 refine FCall.pure (B52 _ ?_)
 unfold B9r
 refine Dr ?_ ?_
 ·intro q e _ _
  exact ⟨_,_,_,rfl,Br.of (fun _=>⟨B3 _,hK1 ⟨q,e⟩⟩) (fun e=>by cases e)⟩
 ·refine ⟨_,_,_,rfl,Br.of (fun e=>by cases e) (fun _=>?_)⟩
  refine Py (by omega) ?_ ?_
  ·intro neg x y f
   refine ⟨_,_,_,_,rfl,Br.of (fun e=>by cases e) (fun _=>?_)⟩
   have j:=f.lens
   rw [Y2]
   refine B6 (fun e=>?_) (fun e=>?_)
   ·subst e
    exact ⟨B3 _,hK1 (f.isNum.2 (by unfold Mi;simp))⟩
   ·refine Jt f.da (by omega) ?_
    intro A1 u c1 w g n
    refine ⟨_,_,_,_,rfl,g,Jt f.db (by omega) ?_⟩
    intro A2 A c2 s c o
    refine ⟨_,_,_,_,rfl,c,Cj (gl.tz.mono (Heap.le_trans g c)) (n.mono c) o (Ra f.da (k:=a.length) (by omega)) (Ra f.db (k:=a.length) (by omega)) (by omega) ?_⟩
    intro A3 t C D m p
    refine ⟨_,_,_,_,rfl,m,Q4 p ⟨_,rfl,B3 _,Heap.le_trans g (Heap.le_trans c m),?_⟩⟩
    rw [dK]
    have b:Mi y=J4 y:=by unfold Mi;rw [iN e]
    by_cases d:aQ (J4 x) (J4 y)=1
    ·rw [decide_eq_true (by rw [d];rfl)]
     exact hK1 (f.isNum.2 (by rw [b];exact d))
    ·rw [decide_eq_false (by omega)]
     exact hK0 (fun i=>d (by rw [<- b];exact f.isNum.1 i))
  ·intro r neg x y
   refine ⟨_,_,_,_,rfl,Br.of (fun _=>⟨B3 _,hK0 ?_⟩) (fun e=>by cases e)⟩
   intro i
   obtain ⟨l,z,B,f⟩:=i.form
   exact r _ _ _ f
def C0u{q:Rat}(hq:q≠0)(hneg:¬ q<0):q.num.sign=1:=by
 have b:¬ q.num<0:=fun e=>hneg (by rw [aX];simpa using e)
 have a:q.num≠0:=fun e=>hq (Rat.num_eq_zero.1 e)
 exact aJ (by omega)
def Ca(gl:Gl h)(hl:a.length<=100000000)(hK:K (I (rv a).num.sign) h):aF prog Vl #[.string (bs a)] h K:=by
 refine B88 _ ?_
 unfold C44
 have d:((bs a).toList==({ data:=#[48] }:ByteArray).toList)=decide (a=[48]):=Kn a [48]
 rw [d]
 refine B6 (fun e=>?_) (fun e=>?_)
 ·subst e;rw [C5y] at hK;exact hK
 ·refine By gl hl ?_ ?_
  ·rintro ⟨q,rfl⟩
   rw [D9] at hK
   have f:q≠0:=by rintro rfl;exact e B1u
   obtain ⟨c,r,j,i⟩:=A2q q
   refine ⟨_,rfl,O9 ?_⟩
   refine ⟨c,⟨by omega,by rw [Is,j];rfl⟩,D8 (fun g=>?_) (fun g=>?_)⟩
   ·have b:c=45:=by apply UInt8.toNat_inj.1;show c.toNat=45;omega
    have:=(aX q 0).1 (i.1 b)
    rw [bN (by simpa using this)] at hK
    exact hK
   ·have b:¬ q<0:=fun k=>g (by rw [i.2 k];rfl)
    rw [C0u f b] at hK
    exact hK
  ·intro l
   rw [A85 l] at hK
   exact ⟨_,rfl,O9 hK⟩
def Ug(gl:Gl h)(hl:a.length<=100000000)(hK:K (.string (bs (I9 (-rv a)))) h):aF prog A49 #[.string (bs a)] h K:=by
 refine C26 _ ?_
 unfold C6k
 have f:((bs a).toList==({ data:=#[48] }:ByteArray).toList)=decide (a=[48]):=Kn a [48]
 rw [f]
 refine B6 (fun e=>?_) (fun e=>?_)
 ·subst e;rw [C5y,Rat.neg_zero,B1u] at hK;exact hK
 ·refine By gl hl ?_ ?_
  ·rintro ⟨q,rfl⟩
   rw [D9] at hK
   have g:q≠0:=by rintro rfl;exact e B1u
   obtain ⟨c,r,k,j⟩:=A2q q
   refine ⟨_,rfl,O9 ?_⟩
   refine ⟨c,⟨by omega,by rw [Is,k];rfl⟩,D8 (fun i=>?_) (fun i=>?_)⟩
   ·have d:c=45:=by apply UInt8.toNat_inj.1;show c.toNat=45;omega
    have b:=A7y (j.1 d)
    rw [b,H9]
    refine ⟨⟨by omega,by simp;omega⟩,?_⟩
    rw [L3,show ((1:Int)).toNat=1 from rfl,bC (by simp),List.drop_succ_cons,bM]
    exact hK
   ·have d:¬ q<0:=fun m=>i (by rw [j.2 m];rfl)
    have l: -q<0:=by
     have:0<q:=Rat.lt_of_le_of_ne (Rat.not_lt.1 d) (Ne.symm g)
     grind
    rw [A7y l,Rat.neg_neg] at hK
    refine ⟨?_,?_⟩
    ·show (((bs [45]).size+(bs (I9 q)).size:Nat):Int)<=_
     rw [H9,H9];simp;omega
    ·show K (.string (bs [45]++bs (I9 q))) h
     rw [It];exact hK
  ·intro n
   rw [A85 n,Rat.neg_zero,B1u] at hK
   exact ⟨_,rfl,O9 hK⟩
def Nb(gl:Gl h)(ta:Tx m a)(tb:Tx m b)(hm:2*m<=6400000000)(hK:K (I (B7r (rv a) (rv b))) h):aF prog Jy #[.string (bs a),.string (bs b)] h K:=by
 refine FCall.pure (A7g _ _ ?_)
 unfold A9c
 refine Ac ?_ ?_
 ·intro p q j o f c l n
  rw [j,o,D9,D9] at hK
  refine ⟨_,_,_,_,_,rfl,Br.of (fun _=>Wt _ _ ?_) (fun e=>by cases e)⟩
  unfold Sm
  have u:=Ha f (show ((q.den:Nat):Int).natAbs<1000000000 by simpa using n)
  have r:=Ha l (show ((p.den:Nat):Int).natAbs<1000000000 by simpa using c)
  rw [B7 (by omega) (by omega),B7 (by omega) (by omega)]
  exact B4f ⟨_,rfl,_,rfl,B3 _,hK⟩
 ·refine ⟨_,_,_,_,_,rfl,Br.of (fun e=>by cases e) (fun _=>?_)⟩
  refine L0 gl.tz ta.len ?_
  intro t f d k
  refine ⟨_,_,_,_,_,_,_,_,rfl,L0 (gl.tz.mono d) tb.len ?_⟩
  intro s c g i
  refine ⟨_,_,_,_,_,_,_,_,rfl,A0g (k.mono g) i ta.sz tb.sz hm ⟨_,rfl,Heap.le_trans d g,hK⟩⟩
def A2z(gl:Gl h)(ta:Tx m a)(tb:Tx m b)(hm:2*m+1<=40000000)(hK:K (.string (bs (I9 (rv a+rv b)))) h):aF prog A8m #[.string (bs a),.string (bs b)] h K:=by
 refine FCall.pure (C2a _ _ ?_)
 unfold C6o
 refine Ac ?_ ?_
 ·intro p q s l i d j k
  rw [s,l,D9,D9,Fd] at hK
  refine ⟨_,_,_,_,_,rfl,Br.of (fun _=>?_) (fun e=>by cases e)⟩
  have y:=Ha i (show ((q.den:Nat):Int).natAbs<1000000000 by simpa using k)
  have z:=Ha j (show ((p.den:Nat):Int).natAbs<1000000000 by simpa using d)
  have B:=Ha (show ((p.den:Nat):Int).natAbs<1000000000 by simpa using d) (show ((q.den:Nat):Int).natAbs<1000000000 by simpa using k)
  rw [B7 (n:=p.num*q.den) (by omega) (by omega),B7 (n:=q.num*p.den) (by omega) (by omega),B7 (n:=(p.den:Int)*q.den) (by omega) (by omega),B7 (by omega) (by omega)]
  exact S5 gl.p10 (cH (dE p) (dE q)) (by omega) (by omega) ⟨_,rfl,B3 _,hK⟩
 ·refine ⟨_,_,_,_,_,rfl,Br.of (fun e=>by cases e) (fun _=>?_)⟩
  refine L0 gl.tz ta.len ?_
  intro x i g o
  refine ⟨_,_,_,_,_,_,_,_,rfl,L0 (gl.tz.mono g) tb.len ?_⟩
  intro w d f r
  refine ⟨_,_,_,_,_,_,_,_,rfl,Yl (gl.tz.mono (Heap.le_trans g f)) (o.mono f) r ta.sz tb.sz (by omega) ?_⟩
  intro A j u t
  have c:=Heap.le_trans g (Heap.le_trans f u)
  exact ⟨_,_,_,_,_,_,_,_,rfl,T2 (gl.p10.mono c) t (ta.sz.add tb.sz) (by omega) ⟨_,rfl,c,hK⟩⟩
def Uf(gl:Gl h)(ta:Tx m a)(tb:Tx m b)(hm:2*m+1<=40000000)(hK:K (.string (bs (I9 (rv a-rv b)))) h):aF prog A48 #[.string (bs a),.string (bs b)] h K:=by
 refine FCall.pure (C25 _ _ ?_)
 unfold C6j
 refine Ac ?_ ?_
 ·intro p q s l i d j k
  have t:p-q=bL (p.num*q.den-q.num*p.den) (p.den*q.den):=by
   rw [Rat.sub_eq_add_neg,Fd,Rat.neg_num,Rat.neg_den,Int.neg_mul,<- Int.sub_eq_add_neg]
  rw [s,l,D9,D9,t] at hK
  refine ⟨_,_,_,_,_,rfl,Br.of (fun _=>?_) (fun e=>by cases e)⟩
  have z:=Ha i (show ((q.den:Nat):Int).natAbs<1000000000 by simpa using k)
  have A:=Ha j (show ((p.den:Nat):Int).natAbs<1000000000 by simpa using d)
  have C:=Ha (show ((p.den:Nat):Int).natAbs<1000000000 by simpa using d) (show ((q.den:Nat):Int).natAbs<1000000000 by simpa using k)
  rw [B7 (n:=p.num*q.den) (by omega) (by omega),B7 (n:=q.num*p.den) (by omega) (by omega),B7 (n:=(p.den:Int)*q.den) (by omega) (by omega),B7 (by omega) (by omega)]
  exact S5 gl.p10 (cH (dE p) (dE q)) (by omega) (by omega) ⟨_,rfl,B3 _,hK⟩
 ·refine ⟨_,_,_,_,_,rfl,Br.of (fun e=>by cases e) (fun _=>?_)⟩
  refine L0 gl.tz ta.len ?_
  intro y i g o
  refine ⟨_,_,_,_,_,_,_,_,rfl,L0 (gl.tz.mono g) tb.len ?_⟩
  intro x d f r
  refine ⟨_,_,_,_,_,_,_,_,rfl,A9x (gl.tz.mono (Heap.le_trans g f)) (o.mono f) r ta.sz tb.sz (by omega) ?_⟩
  intro B j w u
  have c:=Heap.le_trans g (Heap.le_trans f w)
  exact ⟨_,_,_,_,_,_,_,_,rfl,T2 (gl.p10.mono c) u (ta.sz.sub tb.sz) (by omega) ⟨_,rfl,c,hK⟩⟩
def B1y(gl:Gl h)(ta:Tx m a)(tb:Tx m b)(hm:2*m<=40000000)(hK:K (.string (bs (I9 (rv a*rv b)))) h):aF prog B3q #[.string (bs a),.string (bs b)] h K:=by
 refine FCall.pure (C27 _ _ ?_)
 unfold C6l
 refine Ac ?_ ?_
 ·intro p q l u j g i t
  rw [l,u,D9,D9,Ju] at hK
  refine ⟨_,_,_,_,_,rfl,Br.of (fun _=>?_) (fun e=>by cases e)⟩
  have z:=Ha j i
  have A:=Ha (show ((p.den:Nat):Int).natAbs<1000000000 by simpa using g) (show ((q.den:Nat):Int).natAbs<1000000000 by simpa using t)
  rw [B7 (n:=p.num*q.num) (by omega) (by omega),B7 (n:=(p.den:Int)*q.den) (by omega) (by omega)]
  exact S5 gl.p10 (cH (dE p) (dE q)) (by omega) (by omega) ⟨_,rfl,B3 _,hK⟩
 ·refine ⟨_,_,_,_,_,rfl,Br.of (fun e=>by cases e) (fun _=>?_)⟩
  refine L0 gl.tz ta.len ?_
  intro x j d o
  refine ⟨_,_,_,_,_,_,_,_,rfl,L0 (gl.tz.mono d) tb.len ?_⟩
  intro w g f k
  refine ⟨_,_,_,_,_,_,_,_,rfl,Yj (gl.tz.mono (Heap.le_trans d f)) (o.mono f) k ta.sz tb.sz (by omega) ?_⟩
  intro y i r s
  have c:=Heap.le_trans d (Heap.le_trans f r)
  exact ⟨_,_,_,_,_,_,_,_,rfl,T2 (gl.p10.mono c) s (ta.sz.mul tb.sz) (by omega) ⟨_,rfl,c,hK⟩⟩
def B21(gl:Gl h)(ta:Tx m a)(tb:Tx m b)(hm1:1<=m)(hm:2*m<=40000000)(hK1:rv b≠0->K (.tuple #[.string (bs (I9 (rv a/rv b))),.bool true]) h)(hK0:rv b=0->K (.tuple #[.string (bs []),.bool false]) h):aF prog B3r #[.string (bs a),.string (bs b)] h K:=by
 refine FCall.pure (C29 _ _ ?_)
 unfold C6n
 have c:∀ j,j=h->aF prog N3 #[.string (bs b)] j (fun J x=>∃ (t350:Bool) (t351A:Option aO) (t351n:Nat) (t351c:Nat) (t352:Bool) (t353A:Option aO) (t353n:Nat) (t353c:Nat),J= .agg #[.bool t350,.slice t351A t351n t351c,.bool t352,.slice t353A t353n t353c]/\aF prog Og #[.agg #[.bool t350,.slice t351A t351n t351c,.bool t352,.slice t353A t353n t353c]] x (fun O g=>∃ (t37:Bool),O= .bool t37/\Br t37 (h.le g/\K (.tuple #[.string ({ data:=#[] }:ByteArray),.bool false]) h)
  (aF prog N3 #[.string (bs a)] g (fun F k=>∃ (t390:Bool) (t391A:Option aO) (t391n:Nat) (t391c:Nat) (t392:Bool) (t393A:Option aO) (t393n:Nat) (t393c:Nat),F= .agg #[.bool t390,.slice t391A t391n t391c,.bool t392,.slice t393A t393n t393c]/\Heap.le g k/\aF prog A8p #[.agg #[.bool t390,.slice t391A t391n t391c,.bool t392,.slice t393A t393n t393c],.agg #[.bool t350,.slice t351A t351n t351c,.bool t352,.slice t353A t353n t353c]] k (fun N d=>∃ (t410:Bool) (t411A:Option aO) (t411n:Nat) (t411c:Nat) (t412:Bool) (t413A:Option aO) (t413n:Nat) (t413c:Nat),N= .agg #[.bool t410,.slice t411A t411n t411c,.bool t412,.slice t413A t413n t413c]/\Heap.le k d/\aF prog V3 #[.agg #[.bool t410,.slice t411A t411n t411c,.bool t412,.slice t413A t413n t413c]] d (fun R r=>∃ (t42:ByteArray),R= .string t42/\Heap.le d r/\(h.le r/\K (.tuple #[.string t42,.bool true]) h))))))):=by
  rintro j rfl
  refine L0 gl.tz tb.len ?_
  intro T B t A
  refine ⟨_,_,_,_,_,_,_,_,rfl,A3c A ⟨_,rfl,B6 (fun e=>⟨t,hK0 e⟩) (fun e=>?_)⟩⟩
  refine L0 (gl.tz.mono t) ta.len ?_
  intro S y s G
  refine ⟨_,_,_,_,_,_,_,_,rfl,s,A9z (gl.tz.mono (Heap.le_trans t s)) G (A.mono s) ta.sz tb.sz hm1 (by omega) ?_⟩
  intro W D E M
  have o:=Heap.le_trans t (Heap.le_trans s E)
  exact ⟨_,_,_,_,_,_,_,_,rfl,E,T2 (gl.p10.mono o) M (ta.sz.div tb.sz hm1) (by omega) ⟨_,rfl,B3 _,o,hK1 e⟩⟩
 refine Ac ?_ ?_
 ·intro p q H z B y D Q
  refine ⟨_,_,_,_,_,rfl,fun L j=>L=[.bool (decide (q.num≠0))]/\j=h,Br.of (fun _=>⟨?_,rfl⟩) (fun e=>by cases e),?_⟩
  ·by_cases l:q.num=0<;>simp [l,bne]
  rintro i f ⟨w,rfl⟩
  obtain rfl:i=decide (q.num≠0):=by simpa using w
  refine B6 (fun l=>?_) (fun l=>c f rfl)
  have u:rv b≠0:=by rw [z,D9];exact fun e=>l (Rat.num_eq_zero.2 e)
  have C:=hK1 u
  rw [H,z,D9,D9,Yv] at C
  have V:=Ha B (show ((q.den:Nat):Int).natAbs<1000000000 by simpa using Q)
  have X:=Ha (show ((p.den:Nat):Int).natAbs<1000000000 by simpa using y) D
  rw [B7 (n:=p.num*q.den) (by omega) (by omega),B7 (n:=(p.den:Int)*q.num) (by omega) (by omega)]
  exact S5 gl.p10 (cH (dE p) l) (by omega) (by omega) ⟨_,rfl,B3 _,C⟩
 ·refine ⟨_,_,_,_,_,rfl,fun L j=>L=[.bool false]/\j=h,Br.of (fun e=>by cases e) (fun _=>⟨rfl,rfl⟩),?_⟩
  rintro i f ⟨w,rfl⟩
  obtain rfl:i=false:=by simpa using w
  exact Br.of (fun e=>by cases e) (fun _=>c f rfl)
def A5v(gl:Gl h)(ta:Tx m a)(hm:m+1<=40000000)(hK:K (.string (bs (Hl (rv a).floor))) h):aF prog A17 #[.string (bs a)] h K:=by
 refine FCall.pure (B56 _ ?_)
 unfold B9u
 refine L0 gl.tz ta.len ?_
 intro i k b e
 refine ⟨_,_,_,_,_,_,_,_,rfl,Rr e ta.sz (by omega) ?_⟩
 intro j A2 f c2 g c d
 exact ⟨_,_,_,_,rfl,Hn (m:=m) (gl.p10.mono (Heap.le_trans b c)) d (Tl ta.sz) (by omega) ⟨_,rfl,Heap.le_trans b c,hK⟩⟩
def A9t(gl:Gl h)(ta:Tx m a)(hm:m+1<=40000000)(hK:K (.string (bs (Hl (rv a).ceil))) h):aF prog A6q #[.string (bs a)] h K:=by
 refine FCall.pure (B8a _ ?_)
 unfold C46
 refine L0 gl.tz ta.len ?_
 intro i k b e
 refine ⟨_,_,_,_,_,_,_,_,rfl,B00 e ta.sz (by omega) ?_⟩
 intro j A2 f c2 g c d
 refine ⟨_,_,_,_,rfl,Hn (m:=m) (gl.p10.mono (Heap.le_trans b c)) d ?_ (by omega) ⟨_,rfl,Heap.le_trans b c,hK⟩⟩
 rw [dD]
 exact (Tl ta.sz.neg).neg
end
def C71(h:aV)(r:Value)(h':aV):Prop:=r= .bool true/\h.le h'
def C56{x:List UInt8}{k:Nat}(hl:x.length<=k)(hk:1<=k):Sz (4*k) (rv x):=by
 by_cases d:IsNum x
 ·obtain ⟨neg,a,b,f⟩:=d.form
  obtain ⟨i,g⟩:=f.rv_num d
  have e:=f.lens
  have c:(Sd neg a).natAbs=J4 a:=by unfold Sd;split<;>simp
  refine ⟨?_,?_⟩
  ·rw [i];exact (Ra f.da (k:=k) (by omega)).le (by rw [c,aC];exact bB _)
  ·rw [g]
   unfold Mi
   split
   ·exact ZB.one (by omega)
   ·exact Ra f.db (by omega)
 ·rw [A85 d];exact Sz.zero (by omega)
end Go.Proofs.YtmbfcbbkbefgfaaGreatDoor
namespace Go.Proofs.YtmbfcbbkbefgfaaGreatDoor
set_option maxRecDepth 20000
open Go Go.RowKit
def memOf(W:World):aV:=fun b=>W.heap[b]?
def frame_of{P:Program}{f:FuncId}{args:Array Value}{W:World}(x:aF P f args (memOf W) (C71 (memOf W))):Calls P f args W fun e w'=>e= .returned (.bool true)/\Below W.heap.size W w':=by
 refine (x W (fun b o e=>e)).mono ?_
 rintro e W' ⟨r,l,g,⟨j,c⟩,a⟩
 subst j
 refine ⟨g,a.os,a.tape,a.output,a.size,fun k i=>?_⟩
 have d:memOf W k=some W.heap[k]:=Array.getElem?_eq_getElem i
 have:=a.sim k _ (c k _ d)
 rw [this];exact d.symm
def Qi{W:World}{a:aO}{v:Value}(e:W.cell? a=some v):(memOf W).cell? a=some v:=by
 unfold World.cell? at e
 unfold Heap.cell? memOf
 exact e
def A8j{P:Program}{W:World}{x:String × DataW Unit}{rest:List (String × DataW Unit)}(h:laidMet P (x::rest) W):laidMet P rest W:=by
 obtain ⟨n,d⟩:=x
 obtain ⟨m,⟨g,t,o,c,p,q,s,k,l,r,j,rfl⟩,e,f⟩:=h
 exact ⟨q,j,(List.nodup_append.1 e).2.1,fun b a i=>f b a (List.mem_append_right _ i)⟩
def C53:List Int:=[0,1,28,2,29,14,24,3,30,22,20,15,25,17,4,8,31,27,13,23,21,19,16,7,26,12,18,6,11,5,10,9]
def B6p:List Int:=[0,1,56,2,57,49,28,3,61,58,42,50,38,29,17,4,62,47,59,36,45,43,51,22,53,39,33,30,24,18,12,5,63,55,48,27,60,41,37,16,46,35,44,21,52,32,23,11,54,26,40,15,34,20,31,10,25,14,19,9,13,8,7,6]
def C0o:List Int:=[1,10,100,1000,10000,100000,1000000,10000000,100000000,1000000000,10000000000,100000000000,1000000000000,10000000000000,100000000000000,1000000000000000,10000000000000000,100000000000000000,1000000000000000000,10000000000000000000]
def B9b:prog.globalNamed "math/bits.deBruijn64tab" = some 0:=by kernel_rfl
def B9c:prog.globalNamed "internal/strconv.uint64pow10" = some 3:=by kernel_rfl
def tabs_gl{W:World}(h:laidMet prog [("math/bits.deBruijn32tab",Rows.laid_math_bits_deBruijn32tab),("math/bits.deBruijn64tab",Rows.laid_math_bits_deBruijn64tab),("internal/strconv.uint64pow10",Rows.laid_internal_strconv_uint64pow10)] W):Gl (memOf W):=by
 have i:=A8j h
 have j:=A8j i
 have e:Lib.TabIs prog W "math/bits.deBruijn64tab" .u8 B6p:=Lib.tabIs_of_head (rest:=[("internal/strconv.uint64pow10",Rows.laid_internal_strconv_uint64pow10)]) B9b (by kernel_rfl) underlying354 underlying5 (by kernel_rfl) (by kernel_rfl) i
 have f:Lib.TabIs prog W "internal/strconv.uint64pow10" .u64 C0o:=Lib.tabIs_of_head (rest:=[]) B9c (by kernel_rfl) underlying358 underlying270 (by kernel_rfl) (by kernel_rfl) j
 have g:∀ k,k<64->A2p k<B6p.length/\B6p.getD (A2p k) 0=(k:Int):=by decide +kernel
 have d:∀ k,k<20->C0o.getD k 0=((10^k:Nat):Int):=by decide +kernel
 refine ⟨fun k c=>?_,fun k c=>?_⟩
 ·obtain ⟨a,b⟩:=g k c
  have:=Qi (e.cell B9b (A2p k) a)
  rw [E6,bU,dL,this,b]
 ·have:=Qi (f.cell B9c k (by show k<20;exact c))
  rw [E6,bU,dL,this,d k c]
def B3f(zs:List Int)(k:IntKind):Obj->Obj
 | .cells _ t frozen=>.cells (zs.map (bW k)).toArray t frozen
 | o=>o
def layTabs(a:Array Obj):Array Obj:=((a.modify 4 (B3f C53 .u8)).modify 0 (B3f B6p .u8)).modify 3 (B3f C0o .u64)
