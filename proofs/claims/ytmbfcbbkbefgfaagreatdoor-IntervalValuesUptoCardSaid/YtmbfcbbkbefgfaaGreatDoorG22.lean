/- A part. -/
import Derived.Test.YtmbfcbbkbefgfaaGreatDoorG16
import Derived.Test.YtmbfcbbkbefgfaaGreatDoorG18
open Go.Proofs.Tryz
set_option linter.all false
open _root_.Go.Addr renaming add->eD
open _root_.Go.Builtin renaming copy_->dM
open _root_.Go.Extern.MathBitsCarry renaming m64->aT,pair->fE
open _root_.Go.Instr renaming storeAt->dL
open Int renaming toNat_natCast->aC,mul_le_mul_of_nonneg_right->aD,mul_le_mul_of_nonneg_left->aG,emod_lt_of_pos->aJ,mul_ediv_add_emod->aK,le_of_lt->aL,mul_comm->aP,mul_nonneg->aQ,emod_nonneg->aR,pow_add->aW,pow_succ->aZ,tdiv_eq_ediv_of_nonneg->bB,ediv_lt_of_lt_mul->bC,pow_pos->bG,mul_lt_mul_of_pos_right->bI,ediv_eq_zero_of_lt->bK,ediv_nonneg->bM,natCast_mul->bU,tmod_eq_emod_of_nonneg->bW,mul_lt_mul_of_pos_left->bX,mul_assoc->cD,mul_add->cI,lt_of_le_of_lt->cJ,zero_add->cO,gcd_natCast_natCast->cQ,eq_ofNat_of_zero_le->cR,ofNat_tdiv->cT,tdiv->dF,sign_eq_neg_one_of_neg->dG,mul_le_mul->dH,fdiv->dI,natCast_ediv->dO,ediv_le_self->dP,ediv_ediv_of_nonneg->dQ,zero_mul->dR,sign_eq_one_of_pos->dS,add_mul_ediv_right->dT,add_comm->dU,add_mul_ediv_left->dZ,ofNat_tmod->eC,mul_ediv_cancel->eE,mul_zero->eK,gcd->eM,emod_eq_of_lt->eO,add_zero->eP,natCast_emod->eS,natCast_add->eX,add_mul_emod_self_right->eZ,fdiv_eq_ediv_of_nonneg->fC,zero_emod->fF,toNat_pow_of_nonneg->fI,pow_zero->fP
open List renaming replicate->aE,length_take->aF,getElem?_cons_zero->aH,take_of_length_le->aM,length_append->aN,getElem?_cons_succ->aO,length_drop->aS,eq_nil_of_length_eq_zero->aU,take_length->aV,drop_of_length_le->aX,drop_replicate->bA,append_assoc->bF,length_set->bL,length_replicate->bY,getElem?_eq_none->bZ,nil_append->cA,append_nil->cC,take_replicate->cF,getD->cK,drop_drop->cM,take_left'->cP,replicate_append_replicate->cU,take_append_drop->cW,drop_append_of_le_length->cZ,map_append->dC,drop_left'->dD,length_map->dX,getElem?_toArray->dY,drop_length->eQ,drop_append->eR,take_append_of_le_length->eU,getElem?_append_right->fA,drop_zero->fB,drop_eq_getElem_cons->fD,getElem?_set_self->fO
open List.cons renaming injEq->bO
open Nat renaming min_eq_left->aI,le_refl->bD,sub_zero->bV,add_sub_cancel_left->cG,gcd->cX,pow_pos->cY,one_mul->dJ,add_mul->dK,min_eq_right->dN,div_add_mod->dV,mul_one->eB,mul_assoc->eF,mod_lt->eG,mul_comm->eI,add_zero->eJ,div_le_self->eV,testBit_two_pow_mul->fG,mul_div_cancel_left->fH,zero_mul->fJ,zero_add->fK,le_mul_of_pos_left->fL,gcd_sub_self_right->fM,gcd_comm->fN
open Nat.Coprime renaming gcd_mul_left_cancel_right->cN
open _root_.Go.Value renaming int->bH
open _root_.Go.Value.int renaming injEq->dB
open _root_.Go.Value.slice renaming injEq->cL
open _root_.Go renaming Addr->bN,TypeId->cH,IntKind->cV,Program->dE,Value->eA
open _root_.Go.Proofs.YtmbfcbbkbefgfaaGreatDoor renaming FCall->aY,Heap->bJ
namespace Go.Proofs.YtmbfcbbkbefgfaaGreatDoor
set_option maxRecDepth 20000
open Go
def ndg(x:Nat):Nat:=x*78913/262144
def B39:∀ x,x<65->2^x<=10^(ndg x+1)/\(ndg x=0\/10^(ndg x-1)<=2^(x-1))/\ndg x<=19:=by decide
def A09{n k:Nat}(h1:10^k<=n)(h2:n<10^(k+1)):(dd n).length=k+1:=by
 have a:=(Q5 (n:=n) (k:=k+1)).2 h2
 have b:¬ (dd n).length<=k:=fun e=>by have:=Q5.1 e;omega
 omega
def B7o{d:Nat}(h0:d≠0)(h:d<2^64):(dd d).length=ndg (M0 d)+(if 10^ndg (M0 d)<=d then 1 else 0):=by
 have j:=Fx h
 obtain ⟨g,i⟩:=Db h0
 obtain ⟨l,b,e⟩:=B39 (M0 d) (by omega)
 split
 ·rename_i a
  exact A09 a (by omega)
 ·rename_i a
  rcases b with b|b
  ·rw [b] at a;simp at a;omega
  ·obtain ⟨k,hk⟩:∃ k,ndg (M0 d)=k+1:=by
    by_cases c:ndg (M0 d)=0
    ·rw [c] at a;simp at a;omega
    ·exact ⟨ndg (M0 d)-1,by omega⟩
   rw [hk] at a b ⊢
   rw [Nat.add_sub_cancel] at b
   rw [eJ]
   exact A09 (by omega) (by omega)
def B4z(w n:Nat):pad (w+2) n=pad w (n/100)++[dch (n/10%10),dch (n%10)]:=by
 rw [Pb,Pb,Nat.div_div_eq_div_mul];simp
def A77(n:Nat)(h:n=0):pad 0 n=[]:=by subst h;simp [pad,F9]
abbrev b64:Int:=18446744073709551616
abbrev Mw(h:bJ)(A:Option bN)(len:Nat)(n:Int):Prop:=Mag .u64 b64 h A len n
structure Win (k:cV) (h g:bJ) (b:Nat) (e:cH) (A:Option bN) (pre:List eA) (xs:List Int) (post:List eA):Prop where
 free:g b=none
 eq:h=g.put b (.cells (pre++xs.map (bH k)++post).toArray e)
 at_:xs=[]\/A=some ⟨b,pre.length,none⟩
section
variable {k:cV} {h g:bJ} {b:Nat} {e:cH} {A:Option bN} {pre post:List eA} {xs:List Int}
def Win.le(w:Win k h g b e A pre xs post):g.le h:=by rw [w.eq];exact Heap.le_put _ w.free
def Win.sl(w:Win k h g b e A pre xs post):SlI k h A xs:=by
 rcases w.at_ with rfl|c
 ·exact SlI.nil
 ·right
  refine ⟨_,c,fun i v a=>?_⟩
  rw [w.eq,H7,D7]
  have d:i<(xs.map (bH k)).length:=by
   by_cases j:i<(xs.map (bH k)).length
   ·exact j
   ·rw [bZ (by omega)] at a;cases a
  simp only [dY]
  rw [bF,fA (by omega),cG,List.getElem?_append_left d]
  exact a
def Win.store{P:dE}{t:cH}(one:P.cellsOf t=1/\(P.info? t).isSome=true)(w:Win k h g b e A pre xs post){a:bN}(ha:A=some a){i v:Int}(h0:0<=i)(h1:i<xs.length){K:Unit->bJ->Prop}
 (x:∀ h',Win k h' g b e A pre (xs.set i.toNat v) post->K () h'):wpH P (dL t (.pointer (some (eD a (i.toNat*1)))) (.int k v)) K h:=by
 have d:i.toNat<xs.length:=by omega
 have c:A=some ⟨b,pre.length,none⟩:=by
  rcases w.at_ with rfl|c
  ·simp at d
  ·exact c
 rw [ha] at c
 cases c
 rw [w.eq,H7,eB]
 refine Jm one.1 one.2 rfl rfl (by simp;omega) ?_
 refine x _ ⟨w.free,?_,.inr ha⟩
 have:(pre++xs.map (bH k)++post).toArray.setIfInBounds (pre.length+i.toNat) (.int k v)=(pre++(xs.set i.toNat v).map (bH k)++post).toArray:=by
  rw [List.map_set]
  simp only [List.setIfInBounds_toArray,bF]
  congr 1
  rw [List.set_append_right _ _ (by omega),cG,List.set_append_left _ _ (by simpa using d)]
 rw [this]
def Win.storeN{P:dE}{t:cH}(one:P.cellsOf t=1/\(P.info? t).isSome=true)(w:Win k h g b e A pre xs post){a:bN}(ha:A=some a){i:Nat}{v:Int}(h1:i<xs.length){K:Unit->bJ->Prop}
 (x:∀ h',Win k h' g b e A pre (xs.set i v) post->K () h'):wpH P (dL t (.pointer (some (eD a (i*1)))) (.int k v)) K h:=by
 have:=w.store one ha (i:=(i:Int)) (v:=v) (K:=K) (by omega) (by omega) (by simpa using x)
 simpa using this
def Win.call{P:dE}{f:FuncId}{args:Array eA}(w:Win k h g b e A pre xs post){K:VP}(x:aY P f args g (fun r h0=>∀ h',Win k h' h0 b e A pre xs post->K r h')):aY P f args h K:=by
 rw [w.eq]
 exact FCall.frame w.free x fun r h0 a c=>c _ ⟨a,rfl,w.at_⟩
def Win.blk(k:cV)(e:cH){g:bJ}{b:Nat}(hb:g b=none)(zs:List Int):Win k (Go.Proofs.YtmbfcbbkbefgfaaGreatDoor.blk k e g b zs) g b e (some ⟨b,0,none⟩) [] zs []:=
 ⟨hb,by simp [Go.Proofs.YtmbfcbbkbefgfaaGreatDoor.blk],.inr rfl⟩
def Win.sub(w:Win k h g b e A pre xs post){l m c:Nat}(hl:l<=m)(hm:m<=xs.length)(hc:xs.length<=c):
 Win k h g b e (J6 A c l 1) (pre++(xs.take l).map (bH k)) ((xs.drop l).take (m-l)) ((xs.drop m).map (bH k)++post):=by
 refine ⟨w.free,?_,?_⟩
 ·rw [w.eq]
  congr 3
  have:xs=xs.take l++((xs.drop l).take (m-l)++xs.drop m):=by
   have a:xs.drop m=(xs.drop l).drop (m-l):=by rw [cM];congr 1;omega
   rw [a,cW,cW]
  conv=>lhs;rw [this]
  simp [dC,bF]
 ·by_cases i:m-l=0
  ·left;simp [i]
  ·right
   rcases w.at_ with rfl|d
   ·simp at hm;omega
   ·unfold J6
    rw [iN (by omega),d]
    simp only [Option.map_some,H7,eB,aN,dX,aF]
    rw [aI (by omega)]
def Win.whole{h' g':bJ}(w:Win k h g b e A pre xs post){l m:Nat}(hl:l<=m)(hm:m<=xs.length){B:Option bN}{ys:List Int}(hy:ys.length=m-l)(v:Win k h' g' b e B (pre++(xs.take l).map (bH k)) ys ((xs.drop m).map (bH k)++post)):
 Win k h' g' b e A pre (xs.take l++ys++xs.drop m) post:=by
 refine ⟨v.free,?_,?_⟩
 ·rw [v.eq]
  congr 3
  simp [dC,bF]
 ·rcases w.at_ with rfl|a
  ·left
   simp at hm
   have:ys=[]:=aU (by omega)
   simp [this]
  ·exact .inr a
def Priv.win{n c:Nat}(p:Priv h g e 1 A n c (xs.map (bH k)))(hx:xs≠[]):∃ b post,Win k h g b e A [] xs post:=by
 obtain ⟨m,o,j⟩:=p
 rcases j with ⟨r,rfl⟩|⟨b,a,d,i,rfl,q,l⟩
 ·simp at m
  exact absurd (aU (by omega)) hx
 ·refine ⟨b,a.drop (n*1),i,?_,.inr d⟩
  rw [cA,<- l,cW]
end
def Da{P:dE}{t:cH}(one:P.cellsOf t=1/\(P.info? t).isSome=true){k:cV}{n:Int}{i:Nat}{g:bJ}{b:Nat}{e:cH}{zs:List Int}(hi:i<zs.length){K:Unit->bJ->Prop}
 (x:K () (blk k e g b (zs.set i n))):wpH P (dL t (.pointer (some (eD ⟨b,0,none⟩ (i*1)))) (.int k n)) K (blk k e g b zs):=by
 have:=Rm (P:=P) (t:=t) one (k:=k) (n:=n) (i:=(i:Int)) (g:=g) (b:=b) (e:=e) (zs:=zs) (K:=K) (by simpa using hi) (by simpa using x)
 simpa using this
def Ay{P:dE}{t e e' ty:cH}{k:cV}{bytes:Nat}(s:SliceT P t e' (.int k 0) 1 bytes){h g:bJ}{b:Nat}{A:Option bN}{pre post:List eA}{xs:List Int}{n c m d:Nat}(w:Win k h g b e A pre xs post)(hn:n=xs.length){B:Option bN}{ys:List Int}(sy:SlI k h B ys)(hm:m=ys.length)(hle:ys.length<=xs.length){K:VP}
 (x:∀ h',Win k h' g b e A pre (ys++xs.drop ys.length) post->K (I ys.length) h'):wpH P (dM #[t,t] ty #[.slice A n c,.slice B m d]) K h:=by
 subst hn hm
 obtain ⟨i,p,y,o,q⟩:=s.parts
 unfold dM
 simp only [dY,aH,aO,B9,D6 s.und,J2 p,E9,Builtin.lenOf,o]
 have l:Nat.min ys.length xs.length=ys.length:=aI hle
 rw [l]
 refine I5 (s:=1) (cs:=ys.map (bH k)) (by simp) sy ?_
 cases A with
 | none=>
  rcases w.at_ with j|j
  ·subst j
   have:ys=[]:=aU (by simpa using hle)
   subst this
   exact x h (by simpa using w)
  ·cases j
 | some a=>
  simp only [B9]
  rcases w.at_ with j|j
  ·subst j
   have:ys=[]:=aU (by simpa using hle)
   subst this
   exact x h (by simpa using w)
  ·cases j
   rw [w.eq]
   refine H1 (ys.map (bH k)) pre.length 0 (pre++xs.map (bH k)++post) (by simp;omega) (fun v r=>?_) ?_
   ·obtain ⟨u,_,rfl⟩:=List.mem_map.1 r;rfl
   ·refine x _ ⟨w.free,?_,?_⟩
    ·congr 3
     unfold H8
     rw [eJ,bF pre,cP rfl,dX]
     rw [eR,aX (show pre.length<=pre.length+ys.length by omega),cG,cA]
     rw [cZ (by simpa using hle),<- List.map_drop,dC]
     simp only [bF]
    ·right;rfl
def A3e{P:dE}{nm:String}{x y c:Int}(hc:0<=c/\c<=1){f:Nat × Nat × Nat->eA}:Lr P (Extern.MathBitsCarry.three nm #[U x,U y,U c] >>= fun p=>pure (f p))=some (f (x.toNat,y.toNat,c.toNat)):=by
 obtain rfl|rfl:c=0\/c=1:=by omega
 ·rfl
 ·rfl
def A7o:aT=18446744073709551616:=by decide
def Bv{h:bJ}{K:VP}{x y c:Int}(hx:0<=x/\x<18446744073709551616)(hy:0<=y/\y<18446744073709551616)(hc:0<=c/\c<=1)(hK:K (.tuple #[U ((x+y+c)%18446744073709551616),U ((x+y+c)/18446744073709551616)]) h):ECall prog Q6 #[U x,U y,U c] h K:=by
 refine B3j A62 (A3e (P:=prog) hc (f:=fun p=>fE ((p.1+p.2.1+p.2.2)%aT) ((p.1+p.2.1+p.2.2)/aT))) ?_
 have a:((x.toNat+y.toNat+c.toNat)%aT:Nat)=(((x+y+c)%18446744073709551616:Int)):=by
  rw [A7o]
  omega
 have b:((x.toNat+y.toNat+c.toNat)/aT:Nat)=(((x+y+c)/18446744073709551616:Int)):=by
  rw [A7o]
  omega
 show K (.tuple #[U ((x.toNat+y.toNat+c.toNat)%aT:Nat),U ((x.toNat+y.toNat+c.toNat)/aT:Nat)]) h
 rw [a,b];exact hK
def Dn{h:bJ}{K:VP}{x y c:Int}(hx:0<=x/\x<18446744073709551616)(hy:0<=y/\y<18446744073709551616)(hc:0<=c/\c<=1)(hK:K (.tuple #[U ((x-y-c)%18446744073709551616),U (if x-y-c<0 then 1 else 0)]) h):ECall prog Af #[U x,U y,U c] h K:=by
 refine B3j A61 (A3e (P:=prog) hc (f:=fun p=>fE ((p.1+aT-p.2.1-p.2.2)%aT) (if p.1<p.2.1+p.2.2 then 1 else 0))) ?_
 have a:((x.toNat+aT-y.toNat-c.toNat)%aT:Nat)=(((x-y-c)%18446744073709551616:Int)):=by
  rw [A7o]
  omega
 have b:(((if x.toNat<y.toNat+c.toNat then 1 else 0:Nat):Nat):Int)=(if x-y-c<0 then 1 else 0):=by
  split<;>split<;>omega
 show K (.tuple #[U ((x.toNat+aT-y.toNat-c.toNat)%aT:Nat),U ((if x.toNat<y.toNat+c.toNat then 1 else 0:Nat):Nat)]) h
 rw [a,b];exact hK
def Cc(x y:Int):Int:=if x<y then -1 else if x>y then 1 else 0
def A7h{h:bJ}{K:VP}{x:Int}(hK:K (.bool false) h):aY prog Hg #[I x] h K:=by
 refine A34 _ ?_
 unfold A4g
 have:(x != x)=false:=by simp
 rw [this];exact hK
def A7g{h:bJ}{K:VP}{x:Int}(hK:K (.bool false) h):aY prog Ae #[U x] h K:=by
 refine Tm _ ?_
 unfold Sm
 have:(x != x)=false:=by simp
 rw [this];exact hK
def A7i{h:bJ}{K:VP}{x:Int}(hK:K (.bool false) h):aY prog Bp #[I x] h K:=by
 refine Yi _ ?_
 unfold Vj
 have:(x != x)=false:=by simp
 rw [this];exact hK
def Rj{h:bJ}{K:VP}{x y:Int}(hK:K (I (Cc x y)) h):aY prog Kj #[I x,I y] h K:=by
 refine B0f _ _ ?_
 unfold B4d
 refine A7h ⟨_,rfl,A7h ⟨_,rfl,?_⟩⟩
 unfold Cc at hK
 refine B3 (fun a=>?_) (fun a=>B3 (fun b=>?_) (fun b=>?_))
 ·rw [iP a] at hK;exact hK
 ·rw [iN a,iP b] at hK;exact hK
 ·rw [iN a,iN b] at hK;exact hK
def A8p{h:bJ}{K:VP}{x y:Int}(hK:K (I (Cc x y)) h):aY prog Is #[U x,U y] h K:=by
 refine A0z _ _ ?_
 unfold A11
 refine A7g ⟨_,rfl,A7g ⟨_,rfl,?_⟩⟩
 unfold Cc at hK
 refine B3 (fun a=>?_) (fun a=>B3 (fun b=>?_) (fun b=>?_))
 ·rw [iP a] at hK;exact hK
 ·rw [iN a,iP b] at hK;exact hK
 ·rw [iN a,iN b] at hK;exact hK
def A8q{h:bJ}{K:VP}{x y:Int}(hK:K (I (Cc x y)) h):aY prog Mj #[I x,I y] h K:=by
 refine A35 _ _ ?_
 unfold A4h
 refine A7i ⟨_,rfl,A7i ⟨_,rfl,?_⟩⟩
 unfold Cc at hK
 refine B3 (fun a=>?_) (fun a=>B3 (fun b=>?_) (fun b=>?_))
 ·rw [iP a] at hK;exact hK
 ·rw [iN a,iP b] at hK;exact hK
 ·rw [iN a,iN b] at hK;exact hK
def Jx{h:bJ}{K:VP}{x y:Int}(hx:0<=x/\x<18446744073709551616)(hy:0<=y/\y<18446744073709551616)(hK:K (.tuple #[U (x*y/18446744073709551616),U (x*y%18446744073709551616)]) h):aY prog Ed #[U x,U y] h K:=by
 refine B0g _ _ ?_
 unfold B4e
 rw [Dc hx,Dc hy]
 simp only [B7g]
 obtain ⟨e,d,b,c,a⟩:=A24 hx hy (x1:=x/4294967296) (x0:=x%4294967296) (y1:=y/4294967296) (y0:=y%4294967296) (by omega) (by omega) (by omega) (by omega)
 generalize x/4294967296*(y/4294967296)=p11 at *
 generalize x/4294967296*(y%4294967296)=p10 at *
 generalize x%4294967296*(y/4294967296)=p01 at *
 generalize x%4294967296*(y%4294967296)=p00 at *
 rw [C2 (n:=p00) (by omega) (by omega),C2 (n:=p10) (by omega) (by omega),C2 (n:=p01) (by omega) (by omega),C2 (n:=p11) (by omega) (by omega)]
 rw [C2 (n:=p10+p00/4294967296) (by omega) (by omega),Dc (by omega)]
 rw [C2 (n:=(p10+p00/4294967296)%4294967296+p01) (by omega) (by omega)]
 rw [C2 (n:=p11+(p10+p00/4294967296)/4294967296) (by omega) (by omega),C2 (by omega) (by omega),F3]
 have:p11+(p10+p00/4294967296)/4294967296+((p10+p00/4294967296)%4294967296+p01)/4294967296=x*y/18446744073709551616:=by
  rw [a];omega
 rw [this];exact hK
def Q0{h:bJ}{K:VP}{x y c:Int}(hx:0<=x/\x<18446744073709551616)(hy:0<=y/\y<18446744073709551616)(hc:0<=c/\c<18446744073709551616)(hK:K (.tuple #[U ((x*y+c)%18446744073709551616),U ((x*y+c)/18446744073709551616)]) h):aY prog J1 #[U x,U y,U c] h K:=by
 have d:0<=x*y/\x*y<=18446744073709551615*18446744073709551615:=⟨aQ hx.1 hy.1,dH (by omega) (by omega) hy.1 (by decide)⟩
 refine Rx _ _ _ ?_
 unfold Oa
 refine Jx hx hy ⟨_,_,rfl,?_⟩
 refine Bv (by omega) hc (by omega) ⟨_,_,rfl,?_⟩
 rw [C2 (by omega) (by omega)]
 have a:(x*y%18446744073709551616+c+0)%18446744073709551616=(x*y+c)%18446744073709551616:=by omega
 have b:x*y/18446744073709551616+(x*y%18446744073709551616+c+0)/18446744073709551616=(x*y+c)/18446744073709551616:=by omega
 rw [a,b];exact hK
def B5o(a:Array UInt8):({ data:=a }:ByteArray)=bs a.toList:=by simp [bs]
def A7q:List UInt8:=[0,1,2,2,3,3,3,3,4,4,4,4,4,4,4,4,5,5,5,5,5,5,5,5,5,5,5,5,5,5,5,5]++aE 32 6++aE 64 7++aE 128 8
def A4z:∀ i,i<256->(A7q[i]?).map UInt8.toNat=some (M0 i):=by decide
def Xr{x s:Nat}(h:2^s<=x):M0 x=s+M0 (x/2^s):=by
 have a:0<2^s:=cY (by decide)
 have b:x/2^s≠0:=by
  have:=Nat.div_pos h a;omega
 have:=A5c (l:=x%2^s) (t:=x/2^s) (j:=s) (eG _ a) b
 rw [Nat.mod_add_div] at this
 exact this
def Wp{h:bJ}{K:VP}{x:Nat}(hx:x<18446744073709551616)(hK:K (I (M0 x)) h):aY prog Kk #[U x] h K:=by
 refine B0h _ ?_
 unfold B4f
 have q:∀ (y s:Nat),s<=64->dI (y:Int) (2^(min ((s:Int)).toNat 64))=((y/2^s:Nat):Int):=by
  intro y s w
  rw [aC,aI w,fC _ (aL (bG (by decide)))]
  simp
 refine ⟨fun l d=>∃ (y n:Nat),l=[U y,I n]/\d=h/\y<4294967296/\M0 x=n+M0 y/\n<=32,B3 (fun j=>?_) (fun j=>?_),?_⟩
 ·refine ⟨x/2^32,32,?_,rfl,by omega,Xr (by omega),by omega⟩
  rw [show (32:Int)=((32:Nat):Int) from rfl,q x 32 (by omega)]
 ·exact ⟨x,0,rfl,rfl,by omega,by omega,by omega⟩
 rintro g e d ⟨y,n,b,rfl,i,a,r⟩
 obtain ⟨rfl,rfl⟩:g=(y:Int)/\e=(n:Int):=by simpa using b
 refine ⟨fun l o=>∃ (y n:Nat),l=[U y,I n]/\o=d/\y<65536/\M0 x=n+M0 y/\n<=48,B3 (fun j=>?_) (fun j=>?_),?_⟩
 ·refine ⟨y/2^16,n+16,?_,rfl,by omega,by rw [a,Xr (x:=y) (s:=16) (by omega)];omega,by omega⟩
  rw [show (16:Int)=((16:Nat):Int) from rfl,q y 16 (by omega),B5 (by omega) (by omega)];rfl
 ·exact ⟨y,n,rfl,rfl,by omega,a,by omega⟩
 clear a i b
 rintro g e d ⟨y,n,b,rfl,i,a,r⟩
 obtain ⟨rfl,rfl⟩:g=(y:Int)/\e=(n:Int):=by simpa using b
 refine ⟨fun l o=>∃ (y n:Nat),l=[U y,I n]/\o=d/\y<256/\M0 x=n+M0 y/\n<=56,B3 (fun j=>?_) (fun j=>?_),?_⟩
 ·refine ⟨y/2^8,n+8,?_,rfl,by omega,by rw [a,Xr (x:=y) (s:=8) (by omega)];omega,by omega⟩
  rw [show (8:Int)=((8:Nat):Int) from rfl,q y 8 (by omega),B5 (by omega) (by omega)];rfl
 ·exact ⟨y,n,rfl,rfl,by omega,a,by omega⟩
 clear a i b
 rintro g e d ⟨y,n,b,rfl,i,a,r⟩
 obtain ⟨rfl,rfl⟩:g=(y:Int)/\e=(n:Int):=by simpa using b
 rw [A37 (by omega) (by omega),aC]
 have m:=A4z y i
 cases hc:A7q[y]? with
 | none=>rw [hc] at m;cases m
 | some c=>
  rw [hc] at m
  have p:c.toNat=M0 y:=by simpa using m
  refine ⟨c,⟨by omega,?_⟩,?_⟩
  ·try unfold A3l
   rw [B5o,Rl];exact hc
  ·have u:M0 y<=8:=Fx (k:=8) (by omega)
   rw [p,B5 (n:=((M0 y:Nat):Int)) (by omega) (by omega),B5 (by omega) (by omega),<- eX,<- a]
   exact hK
def O4{h:bJ}{K:VP}{x:Nat}(hx:x<18446744073709551616)(hK:K (I ((64-M0 x:Nat):Int)) h):aY prog H3 #[U x] h K:=by
 refine Li _ ?_
 unfold Gm
 refine Wp hx ⟨_,rfl,?_⟩
 have a:M0 x<=64:=Fx (k:=64) (by omega)
 rw [B5 (by omega) (by omega)]
 have:(64:Int)-((M0 x:Nat):Int)=((64-M0 x:Nat):Int):=by omega
 rw [this];exact hK
def A0a{a b:Int}{s:Nat}(ha:0<=a)(hb:0<=b/\b<2^s)(hab:a*2^s+b<18446744073709551616):bor .u64 (a*2^s) b=a*2^s+b:=by
 have g:0<(2:Int)^s:=bG (by decide)
 have d:0<=a*2^s:=aQ ha (by omega)
 rw [A5b (by omega) (by omega)]
 have e:(a*2^s).toNat=2^s*a.toNat:=by
  rw [Int.toNat_mul ha (by omega),eI,fI (by decide)];rfl
 have c:b.toNat<2^s:=by
  have:((2^s:Nat):Int)=(2:Int)^s:=by simp
  omega
 rw [e,B37 c,<- e];omega
def W7{s:Nat}(hs:s<=64):(2:Int)^s*2^(64-s)=18446744073709551616:=by
 rw [<- aW,show s+(64-s)=64 by omega];decide
def B0j{x:Int}{s:Nat}(hs:s<=64):dI x (2^(min s 64))=x/2^s:=by
 rw [aI hs];exact fC x (aL (bG (by decide)))
def Est.exact{B top u2 v1 v2 U V:Int}(e:Est B 1 top u2 0 v1 v2 0 U V){q:Int}(h:q*(v1*B+v2)<=top*B+u2):q*V<=U:=by
 have c:=e.hU
 have b:=e.hV
 have a:U=top*B+u2:=by rw [c];omega
 have d:V=v1*B+v2:=by rw [b];omega
 rw [a,d];exact h
section
variable {h:bJ} {K:VP}
def A8l{T u2 v1 v2 X Y:Int}{hp:bJ}{J:Int->bJ->Prop}(es:Est 4294967296 1 T u2 0 v1 v2 0 X Y)(_hT:T<18446744073709551616)
 (hJ:∀ q,0<=q->q*Y<=X->X<(q+1)*Y->J q hp):
 ∃ (Inv:Int->Int->bJ->Prop) (mu:Int->Int->bJ->Nat),Inv (T/v1) (T%v1) hp/\
  ∀ q r hp1,Inv q r hp1->(q>=4294967296->Inv q r hp1)/\0<=q/\q<=4294967297/\0<=r/\r<4294967296/\hp1=hp/\
   (q<4294967296->¬ (q*v2>4294967296*r+u2)->J q hp1)/\
   ((q>=4294967296\/q*v2>4294967296*r+u2)->1<=q/\(r+v1>=4294967296->J (q-1) hp1)/\(r+v1<4294967296->Inv (q-1) (r+v1) hp1/\mu (q-1) (r+v1) hp1<mu q r hp1)):=by
 obtain ⟨H,G⟩:=es.first
 have l:=es.init
 have B:=es.V0
 have A:=es.U0
 have F:=es.v1r
 have n:=es.v2r
 have D:=es.u2r
 have g:=es.top0
 have k:0<=T/v1:=bM g (by omega)
 have s:=aK T v1
 have o:=aR T (show v1≠0 by omega)
 have z:=aJ T (show 0<v1 by omega)
 refine ⟨fun q r hp1=>hp1=hp/\0<=q/\q<=4294967297/\0<=r/\r<4294967296/\q*v1+r=T/\X<(q+1)*Y,fun q _ _=>q.toNat,⟨rfl,k,by omega,o,by omega,by rw [aP];exact s,l⟩,?_⟩
 rintro q r hp1 ⟨rfl,j,u,w,y,c,e⟩
 have key:q*(v1*4294967296+v2)=(T-r)*4294967296+q*v2:=by rw [<- c];grind
 refine ⟨fun _=>⟨rfl,j,u,w,y,c,e⟩,j,u,w,y,rfl,fun i L=>hJ q j (es.exact (by omega)) e,fun d=>?_⟩
 have p:X<q*Y:=by
  rcases d with i|i
  ·exact es.big i
  ·exact es.low j (by omega)
 have m:1<=q:=by
  by_cases E:1<=q
  ·exact E
  ·have:q=0:=by omega
   subst this;omega
 have a:X<(q-1+1)*Y:=by rw [Int.sub_add_cancel];exact p
 have b:(q-1)*v1+(r+v1)=T:=by grind
 refine ⟨m,fun C=>?_,fun C=>⟨⟨rfl,by omega,by omega,by omega,by omega,b,a⟩,by show (q-1).toNat<q.toNat;omega⟩⟩
 have x:(q-1)*(v1*4294967296+v2)=(T-(r+v1))*4294967296+(q-1)*v2:=by rw [<- b];grind
 have i:(q-1)*v2<=4294967296*v2:=aD (by omega) n.1
 exact hJ (q-1) (by omega) (es.exact (by omega)) a
def Pk{hi lo:Int}{y:Nat}(hhi:0<=hi/\hi<y)(hlo:0<=lo/\lo<18446744073709551616)(hy:y<18446744073709551616)
 (hK:K (.tuple #[U ((hi*18446744073709551616+lo)/y),U ((hi*18446744073709551616+lo)%y)]) h):aY prog Ee #[U hi,U lo,U y] h K:=by
 refine B0i _ _ _ ?_
 unfold B4g
 refine E7 (fun e=>absurd e (by omega)) (fun _=>?_)
 refine B3 (fun e=>absurd e (by omega)) (fun _=>?_)
 refine E7 (fun e=>?_) (fun a3=>?_)
 ·refine B3 (fun e=>absurd e (by omega)) (fun _=>?_)
  refine B3 (fun e=>absurd e (by omega)) (fun _=>?_)
  subst e
  rw [dR,cO] at hK
  rw [bB hlo.1,bW hlo.1,C2 (bM hlo.1 (by omega)) (cJ (dP _ hlo.1) hlo.2)]
  exact hK
 refine O4 hy ⟨_,rfl,?_⟩
 have O:y≠0:=by omega
 obtain ⟨a9,a8⟩:=Db O
 have a1:M0 y<=64:=Fx (k:=64) (by omega)
 have a6:1<=M0 y:=by unfold M0;rw [iN O];omega
 obtain ⟨s,hs⟩:∃ s,s=64-M0 y:=⟨_,rfl⟩
 rw [<- hs]
 have aw:s<64:=by omega
 have p:0<(2:Int)^s:=bG (by decide)
 have D:=W7 (s:=s) (by omega)
 have aj:0<(2:Int)^(64-s):=bG (by decide)
 have B:M0 y=64-s:=by omega
 have ag:(y:Int)<2^(64-s):=by
  rw [<- B]
  have:((y:Nat):Int)<((2^M0 y:Nat):Int):=by omega
  simpa using this
 have ak:(2:Int)^(63-s)<=y:=by
  have:((2^(M0 y-1):Nat):Int)<=((y:Nat):Int):=by omega
  rw [show M0 y-1=63-s by omega] at this
  simpa using this
 have W:(2:Int)^s*2^(63-s)=9223372036854775808:=by
  rw [<- aW,show s+(63-s)=63 by omega];decide
 have ab:C0 (s:Int)=(s:Int):=C2 (by omega) (by omega)
 have ai:C0 ((64:Int)-s)=((64-s:Nat):Int):=by rw [C2 (by omega) (by omega)];omega
 have X:(y:Int)*2^s<18446744073709551616:=by
  rw [<- D,aP];exact bX ag p
 have ay:9223372036854775808<=(y:Int)*2^s:=by
  rw [<- W,aP (y:Int)];exact aG ak (by omega)
 have eY:C0 ((y:Int)*2^(min s 64))=(y:Int)*2^s:=by rw [aI (by omega),C2 (by omega) X]
 have a2:hi*2^s+2^s<=(y:Int)*2^s:=by
  have:=aD (show hi+1<=(y:Int) by omega) (aL p)
  rw [Int.add_mul] at this;omega
 have Z:0<=hi*2^s:=aQ hhi.1 (by omega)
 have ar:0<=lo/2^(64-s)/\lo/2^(64-s)<2^s:=by
  refine ⟨bM hlo.1 (by omega),bC aj ?_⟩
  rw [D];exact hlo.2
 have eT:bor .u64 (C0 (hi*2^(min s 64))) (dI lo (2^(min (64-s) 64)))=hi*2^s+lo/2^(64-s):=by
  rw [aI (show s<=64 by omega),C2 Z (by omega),B0j (by omega),A0a hhi.1 ar (by omega)]
 have eL:C0 (lo*2^(min s 64))=lo*2^s%18446744073709551616:=by rw [aI (by omega),F3]
 have be:0<=lo*2^s%18446744073709551616/\lo*2^s%18446744073709551616<18446744073709551616:=⟨aR _ (by decide),aJ _ (by decide)⟩
 have hN:(hi*18446744073709551616+lo)*2^s=(hi*2^s+lo/2^(64-s))*18446744073709551616+lo*2^s%18446744073709551616:=by
  have d1:lo*2^s/18446744073709551616=lo/2^(64-s):=by
   rw [<- D,aP lo,Int.mul_ediv_mul_of_pos _ _ p]
  have d2:=aK (lo*2^s) 18446744073709551616
  rw [d1] at d2
  grind
 generalize hTT:hi*2^s+lo/2^(64-s)=T at *
 generalize hLL:lo*2^s%18446744073709551616=L at *
 generalize hYY:(y:Int)*2^s=Y at *
 have u:0<=T/\T<Y:=by omega
 unfold A13 A15 A12 A14
 simp only [ab,ai,aC,eY,eT,eL,B7g]
 rw [Dc (by omega),Dc (by omega)]
 have e1:Est 4294967296 1 T (L/4294967296) 0 (Y/4294967296) (Y%4294967296) 0 (T*4294967296+L/4294967296) Y:=
  ⟨by decide,by decide,by omega,by omega,by omega,by omega,by omega,by omega,u.1,by omega,by omega⟩
 refine B3 (fun e=>absurd e (by omega)) (fun _=>?_)
 refine B3 (fun e=>absurd e (by omega)) (fun _=>?_)
 refine B3 (fun e=>absurd e (by omega)) (fun _=>?_)
 refine B3 (fun e=>absurd e (by omega)) (fun _=>?_)
 refine B3 (fun e=>absurd e (by omega)) (fun _=>?_)
 have bm:∀ {q w:Int},0<=q->q<=4294967296->0<=w->w<4294967296->0<=q*w/\q*w<18446744073709551616:=by
  intro q w a b c d
  refine ⟨aQ a c,?_⟩
  have:=dH b (show w<=4294967295 by omega) c (by decide)
  omega
 refine ⟨fun l hp=>∃ q,l=[U q]/\hp=h/\0<=q/\q*Y<=T*4294967296+L/4294967296/\T*4294967296+L/4294967296<(q+1)*Y,?_,?_⟩
 ·obtain ⟨Inv,mu,i0,st⟩:=A8l (hp:=h) (J:=fun q hp=>∃ j,[U q]=[U j]/\hp=h/\0<=j/\j*Y<=T*4294967296+L/4294967296/\T*4294967296+L/4294967296<(j+1)*Y) e1 (by omega) (fun q a b c=>⟨q,rfl,rfl,a,b,c⟩)
  refine ⟨fun l hp=>∃ q r,l=[U q,U r]/\Inv q r hp,fun l hp=>mu (iAt l 0) (iAt l 1) hp,⟨T/(Y/4294967296),T%(Y/4294967296),?_,i0⟩,?_⟩
  ·have dm:=aK T (Y/4294967296)
   have N:=bM u.1 (show 0<=Y/4294967296 by omega)
   have d1:T/(Y/4294967296)<=T:=dP _ u.1
   have d2:=aR T (show Y/4294967296≠0 by omega)
   rw [bB u.1,C2 (n:=T/(Y/4294967296)) N (by omega),aP (T/(Y/4294967296))]
   have d3:=aQ (show 0<=Y/4294967296 by omega) N
   rw [C2 (n:=Y/4294967296*(T/(Y/4294967296))) d3 (by omega),C2 (by omega) (by omega)]
   have:T-Y/4294967296*(T/(Y/4294967296))=T%(Y/4294967296):=by omega
   rw [this]
  rintro q r m ⟨j,r',hl,hI⟩
  obtain ⟨rfl,rfl⟩:q=j/\r=r':=by simpa using hl
  obtain ⟨_,g,i,r0,r1,rfl,ok,F⟩:=st q r m hI
  have Q:=bm (q:=4294967296) (w:=r) (by omega) (by omega) r0 r1
  refine ⟨fun l hp=>l=[]/\hp=m/\(q>=4294967296\/q*(Y%4294967296)>4294967296*r+L/4294967296),B3 (fun M=>⟨rfl,rfl,.inl M⟩) (fun M=>?_),?_⟩
  ·have S:=bm (q:=q) (w:=Y%4294967296) g (by omega) (by omega) (by omega)
   rw [C2 S.1 S.2,C2 Q.1 Q.2,C2 (n:=4294967296*r+L/4294967296) (by omega) (by omega)]
   exact B3 (fun C=>⟨rfl,rfl,.inr C⟩) (fun C=>ok (by omega) C)
  ·rintro ae ⟨_,rfl,o⟩
   obtain ⟨g1,g2,H⟩:=F o
   rw [C2 (n:=r+Y/4294967296) (by omega) (by omega),C2 (n:=q-1) (by omega) (by omega)]
   exact B3 (fun V=>g2 V) (fun V=>⟨⟨_,_,rfl,(H (by omega)).1⟩,(H (by omega)).2⟩)
 rintro i E ⟨aq,ao,rfl,ah,bb,a7⟩
 obtain rfl:i=aq:=by simpa using ao
 have ax:i<4294967296:=by
  by_cases A:i<4294967296
  ·exact A
  ·have:=aD (show 4294967296<=i by omega) (show 0<=Y by omega);omega
 have bc:(i+1)*Y=i*Y+Y:=by grind
 have a0:0<=i*Y:=aQ ah (by omega)
 have af:C0 (C0 (C0 (T*4294967296)+L/4294967296)-C0 (i*Y))=T*4294967296+L/4294967296-i*Y:=by
  simp only [F3];omega
 simp only [af]
 generalize hRR:T*4294967296+L/4294967296-i*Y=R at *
 have x:0<=R/\R<Y:=by omega
 refine B3 (fun e=>absurd e (by omega)) (fun _=>?_)
 have e2:Est 4294967296 1 R (L%4294967296) 0 (Y/4294967296) (Y%4294967296) 0 (R*4294967296+L%4294967296) Y:=
  ⟨by decide,by decide,by omega,by omega,by omega,by omega,by omega,by omega,x.1,by omega,by omega⟩
 refine ⟨fun l hp=>∃ q,l=[U q]/\hp=E/\0<=q/\q*Y<=R*4294967296+L%4294967296/\R*4294967296+L%4294967296<(q+1)*Y,?_,?_⟩
 ·obtain ⟨Inv,mu,i0,st⟩:=A8l (hp:=E) (J:=fun q hp=>∃ j,[U q]=[U j]/\hp=E/\0<=j/\j*Y<=R*4294967296+L%4294967296/\R*4294967296+L%4294967296<(j+1)*Y) e2 (by omega) (fun q a b c=>⟨q,rfl,rfl,a,b,c⟩)
  refine ⟨fun l hp=>∃ q r,l=[U r,U q]/\Inv q r hp,fun l hp=>mu (iAt l 1) (iAt l 0) hp,⟨R/(Y/4294967296),R%(Y/4294967296),?_,i0⟩,?_⟩
  ·have dm:=aK R (Y/4294967296)
   have N:=bM x.1 (show 0<=Y/4294967296 by omega)
   have d1:R/(Y/4294967296)<=R:=dP _ x.1
   have d2:=aR R (show Y/4294967296≠0 by omega)
   rw [bB x.1,C2 (n:=R/(Y/4294967296)) N (by omega),aP (R/(Y/4294967296))]
   have d3:=aQ (show 0<=Y/4294967296 by omega) N
   rw [C2 (n:=Y/4294967296*(R/(Y/4294967296))) d3 (by omega),C2 (by omega) (by omega)]
   have:R-Y/4294967296*(R/(Y/4294967296))=R%(Y/4294967296):=by omega
   rw [this]
  rintro r q m ⟨j,r',hl,hI⟩
  obtain ⟨rfl,rfl⟩:r=r'/\q=j:=by simpa using hl
  obtain ⟨_,g,i,r0,r1,rfl,ok,F⟩:=st q r m hI
  have Q:=bm (q:=4294967296) (w:=r) (by omega) (by omega) r0 r1
  refine ⟨fun l hp=>l=[]/\hp=m/\(q>=4294967296\/q*(Y%4294967296)>4294967296*r+L%4294967296),B3 (fun M=>⟨rfl,rfl,.inl M⟩) (fun M=>?_),?_⟩
  ·have S:=bm (q:=q) (w:=Y%4294967296) g (by omega) (by omega) (by omega)
   rw [C2 S.1 S.2,C2 Q.1 Q.2,C2 (n:=4294967296*r+L%4294967296) (by omega) (by omega)]
   exact B3 (fun C=>⟨rfl,rfl,.inr C⟩) (fun C=>ok (by omega) C)
  ·rintro ae ⟨_,rfl,o⟩
   obtain ⟨g1,g2,H⟩:=F o
   rw [C2 (n:=r+Y/4294967296) (by omega) (by omega),C2 (n:=q-1) (by omega) (by omega)]
   exact B3 (fun V=>g2 V) (fun V=>⟨⟨_,_,rfl,(H (by omega)).1⟩,(H (by omega)).2⟩)
 rintro g bd ⟨ap,al,rfl,ac,ba,a4⟩
 obtain rfl:g=ap:=by simpa using al
 refine B3 (fun e=>absurd e (by omega)) (fun _=>?_)
 have au:g<4294967296:=by
  by_cases A:g<4294967296
  ·exact A
  ·have:=aD (show 4294967296<=g by omega) (show 0<=Y by omega);omega
 have a5:(g+1)*Y=g*Y+Y:=by grind
 have av:0<=g*Y:=aQ ac (by omega)
 have ad:C0 (C0 (C0 (R*4294967296)+L%4294967296)-C0 (g*Y))=R*4294967296+L%4294967296-g*Y:=by
  simp only [F3];omega
 rw [ad,C2 (n:=i*4294967296) (by omega) (by omega),C2 (n:=i*4294967296+g) (by omega) (by omega),B0j (by omega)]
 have az:(hi*18446744073709551616+lo)*2^s=(i*4294967296+g)*(y*2^s)+(R*4294967296+L%4294967296-g*Y):=by
  rw [hN,hYY]
  have:T*18446744073709551616+L=(T*4294967296+L/4294967296)*4294967296+L%4294967296:=by omega
  rw [this]
  have:T*4294967296+L/4294967296=R+i*Y:=by omega
  rw [this];grind
 have G:R*4294967296+L%4294967296-g*Y=(hi*18446744073709551616+lo-(i*4294967296+g)*y)*2^s:=by grind
 rw [G,eE _ (show (2:Int)^s≠0 by omega)]
 have am:0<=hi*18446744073709551616+lo-(i*4294967296+g)*y:=by
  by_cases A:0<=hi*18446744073709551616+lo-(i*4294967296+g)*y
  ·exact A
  ·have:=aD (show hi*18446744073709551616+lo-(i*4294967296+g)*y <= -1 by omega) (aL p);omega
 have an:hi*18446744073709551616+lo-(i*4294967296+g)*y<y:=by
  by_cases A:hi*18446744073709551616+lo-(i*4294967296+g)*y<y
  ·exact A
  ·have:=aD (show (y:Int)<=hi*18446744073709551616+lo-(i*4294967296+g)*y by omega) (aL p);omega
 have z:(hi*18446744073709551616+lo)/y=i*4294967296+g:=by
  have:hi*18446744073709551616+lo=(hi*18446744073709551616+lo-(i*4294967296+g)*y)+(i*4294967296+g)*y:=by omega
  rw [this,dT _ _ (by omega),bK am an,cO]
 have aa:(hi*18446744073709551616+lo)%y=hi*18446744073709551616+lo-(i*4294967296+g)*y:=by
  rw [Int.emod_def,z,aP (y:Int)]
 rw [z,aa] at hK
 exact hK
end
def J5{xs:List Int}(d:Dig b64 xs)(i:Nat):0<=xs.getD i 0/\xs.getD i 0<18446744073709551616:=d.getD (by decide) i
def Cs(c:Int):0<=c%18446744073709551616/\c%18446744073709551616<b64:=⟨aR _ (by decide),aJ _ (by decide)⟩
section
variable {h g:bJ} {K:VP} {A B:Option bN} {ac bc:Nat}
def Cj{xs:List Int}(s:SlI .u64 h A xs)(hc:xs.length<=ac)(hl:xs.length<=10000000000)(hK:∀ m,m<=xs.length->Norm (xs.take m)->val b64 (xs.take m)=val b64 xs->K (.slice A m ac) h):aY prog F8 #[.slice A xs.length ac] h K:=by
 refine B2j _ _ _ ?_
 unfold B8u
 refine ⟨fun l g=>∃ m:Nat,l=[I m]/\m<=xs.length/\g=h/\val b64 (xs.take m)=val b64 xs,fun l _=>(iAt l 0).toNat,⟨xs.length,rfl,bD _,rfl,by rw [aV]⟩,?_⟩
 rintro o p ⟨m,b,k,rfl,d⟩
 obtain rfl:=sI1 b
 refine B3 (fun n=>?_) (fun n=>?_)
 ·obtain ⟨j,rfl⟩:∃ j,m=j+1:=⟨m-1,by omega⟩
  have e:B4 (((j+1:Nat):Int)-1)=(j:Int):=by rw [B5 (by omega) (by omega)];omega
  rw [e]
  have c:=O3 b64 (xs:=xs) (i:=j) (by omega)
  refine s.load rfl (by omega) (by omega) ?_
  rw [aC]
  refine E7 (fun a=>?_) (fun a=>?_)
  ·exact ⟨⟨j,rfl,by omega,rfl,by rw [a] at c;omega⟩,by simp only [iAt,aH];omega⟩
  ·refine ⟨⟨by omega,by omega⟩,?_⟩
   rw [L3,aC,bV,bV]
   refine hK (j+1) k ?_ d
   rw [Jj (by omega)];exact A7e a
 ·have:m=0:=by omega
  subst this
  refine ⟨⟨by omega,by omega⟩,?_⟩
  rw [L3,aC,bV,bV]
  exact hK 0 (by omega) Norm.nil d
def N4{xs:List Int}(s:SlI .u64 h A xs)(hd:Dig b64 xs)(hc:xs.length<=ac)(hl:xs.length<=10000000000)(hK:∀ m,m<=xs.length->Mw h A m (val b64 xs)->K (.slice A m ac) h):aY prog F8 #[.slice A xs.length ac] h K:=by
 refine Cj s hc hl ?_
 intro m a d b
 refine hK m a ⟨xs.take m,by simp;omega,?_,hd.take m,d,b⟩
 have:=s.cut (c:=ac) (l:=0) (m:=m) (by omega) a hc
 simpa [L3] using this
def Z9{w:Int}(hw:0<=w/\w<18446744073709551616)(hK:∀ A m c h',h.le h'->m<=c->Mw h' A m w->K (.slice A m c) h'):aY prog U7 #[U w] h K:=by
 refine A0m _ ?_
 unfold A0n
 refine E7 (fun e=>?_) (fun e=>?_)
 ·subst e;exact hK none 0 0 h (B0 h) (bD _) Mag.zero
 ·refine Ao K9 rfl ?_
  intro b a
  exact ⟨_,_,_,rfl,hK _ _ _ _ (Heap.le_put _ a) (bD _) ⟨[w],rfl,SlI.new h b [w] B7 _,Dig.one hw,by simpa [Norm] using e,Dk _ _⟩⟩
def E6{x y:Int}{an bn:Nat}(ma:Mw h A an x)(mb:Mw h B bn y)(hl:an<=10000000000)(hK:K (I (Cc x y)) h):aY prog D8 #[.slice A an ac,.slice B bn bc] h K:=by
 obtain ⟨xs,rfl,s,d,z,rfl⟩:=ma
 obtain ⟨a,rfl,q,g,w,rfl⟩:=mb
 refine Ov _ _ _ _ _ _ ?_
 unfold La
 refine J9 (fun C=>?_) (fun C=>?_)
 ·refine Rj ⟨_,rfl,?_⟩
  have:Cc (xs.length:Int) (a.length:Int)=Cc (val b64 xs) (val b64 a):=by
   unfold Cc
   by_cases m:xs.length<a.length
   ·have:=Tq (by decide) d g w m
    rw [iP (by omega),iP this]
   ·have:=Tq (by decide) g d z (by omega)
    rw [iN (by omega),iP (by omega),iN (by omega),iP (by omega)]
  rw [this];exact hK
 ·have b:xs.length=a.length:=by omega
  refine ⟨fun l u=>∃ k:Nat,l=[I ((k:Int)-1)]/\k<=xs.length/\u=h/\xs.drop k=a.drop k,fun l _=>(iAt l 0+1).toNat,⟨xs.length,?_,bD _,rfl,?_⟩,?_⟩
  ·rw [B5 (by omega) (by omega)]
  ·rw [eQ,b,eQ]
  rintro i E ⟨k,n,D,rfl,c⟩
  obtain rfl:i=(k:Int)-1:=by simpa using n
  refine B3 (fun m=>?_) (fun m=>?_)
  ·obtain ⟨j,rfl⟩:∃ j,k=j+1:=⟨k-1,by omega⟩
   have e:((j+1:Nat):Int)-1=(j:Int):=by omega
   rw [e]
   refine s.load rfl (by omega) (by omega) ?_
   refine q.load rfl (by omega) (by omega) ?_
   rw [aC]
   refine J9 (fun r=>?_) (fun r=>?_)
   ·refine s.load rfl (by omega) (by omega) ?_
    refine q.load rfl (by omega) (by omega) ?_
    rw [aC]
    refine A8p ⟨_,rfl,B0 _,?_⟩
    have:Cc (xs.getD j 0) (a.getD j 0)=Cc (val b64 xs) (val b64 a):=by
     unfold Cc
     by_cases o:xs.getD j 0<a.getD j 0
     ·have:=Tp (by decide) d g (i:=j) (by omega) (by omega) c o
      rw [iP o,iP this]
     ·have:=Tp (by decide) g d (i:=j) (by omega) (by omega) c.symm (by omega)
      rw [iN o,iP (by omega),iN (by omega),iP (by omega)]
    rw [this];exact hK
   ·rw [B5 (by omega) (by omega)]
    refine ⟨⟨j,rfl,by omega,rfl,?_⟩,by simp only [iAt,aH];omega⟩
    rw [fD (show j<xs.length by omega),fD (show j<a.length by omega),c]
    congr 1
    simpa [cK,show j<xs.length by omega,show j<a.length by omega] using r
  ·have p:k=0:=by omega
   subst p
   simp at c
   subst c
   have:Cc (val b64 xs) (val b64 xs)=0:=by unfold Cc;rw [iN (by omega),iN (by omega)]
   rw [this] at hK;exact hK
def Cz{xs:List Int}{an:Nat}(s:SlI .u64 h A xs)(hn:an=xs.length)(hl:xs.length<=10000000000)(hK:∀ A' c' h' g',h.le g'->Priv h' g' B7 1 A' xs.length c' (xs.map (bH .u64))->K (.slice A' xs.length c') h'):aY prog Dx #[.slice A an ac] h K:=by
 subst hn
 refine A9e _ _ _ ?_
 unfold B3s
 refine Br.of (fun e=>?_) (fun e=>?_)
 ·have k:A=none:=by simpa using e
  have m:xs=[]:=by
   rcases s with j|⟨a,g,_⟩
   ·simpa using j
   ·rw [k] at g;cases g
  subst m
  exact hK none 0 h h (B0 h) (by simpa using Priv.nil _ _ _ _)
 ·refine A7p K9 ?_
  intro b l
  refine ⟨_,_,_,rfl,?_⟩
  have c:=Heap.le_put (h:=h) (b:=b) (.cells #[] B7) l
  refine Rp K9 (Priv.nil _ _ _ _) (ys:=xs.map (bH .u64)) (by simp) (SlI.mono c s) (fun v n=>?_) (by omega) (by omega) ?_
  ·obtain ⟨a,_,rfl⟩:=List.mem_map.1 n;rfl
  ·intro A' c' h' g' i d
   simp only [fK,cA] at d ⊢
   exact ⟨_,_,_,rfl,hK _ _ _ _ (Heap.le_trans c i) d⟩
variable {b:Nat} {e:cH} {pre post:List eA}
def Fz{xs ys:List Int}{an bn:Nat}(w:Win .u64 h g b e A pre xs post)(hn:an=xs.length)(sy:SlI .u64 g B ys)(hm:bn=ys.length)(dx:Dig b64 xs)(dy:Dig b64 ys)(hle:ys.length<=xs.length)(hfit:val b64 xs+val b64 ys<b64^xs.length)(hl:xs.length<=10000000000)
 (hK:∀ xs' h',xs'.length=xs.length->Dig b64 xs'->val b64 xs'=val b64 xs+val b64 ys->Win .u64 h' g b e A pre xs' post->K (.tuple #[]) h'):aY prog R6 #[.slice A an ac,.slice B bn bc] h K:=by
 subst hn hm
 refine A2s _ _ _ _ _ _ ?_
 unfold A46
 refine ⟨fun l x=>∃ (k:Nat) (c:Int) (zs:List Int),l=[U c,I k]/\k<=ys.length/\zs.length=xs.length/\Dig b64 zs/\(0<=c/\c<=1)/\Win .u64 x g b e A pre zs post/\zs.drop k=xs.drop k/\val b64 (zs.take k)+c*b64^k=val b64 (xs.take k)+val b64 (ys.take k),fun l _=>ys.length-(iAt l 1).toNat,⟨0,0,xs,rfl,by omega,rfl,dx,by omega,w,rfl,by simp [val]⟩,?_⟩
 rintro c i x ⟨k,H,zs,u,M,j,q,y,m,d,z⟩
 obtain ⟨rfl,rfl⟩:c=H/\i=(k:Int):=by simpa using u
 refine B3 (fun D=>?_) (fun D=>?_)
 ·have R:=J5 dy k
  have F:=J5 q k
  have s:=G6 d
  have J:=C6 b64 xs k
  have O:=C6 b64 ys k
  refine (sy.mono m.le).load rfl (by omega) (by omega) ?_
  refine m.sl.load j.symm (by omega) (by omega) ?_
  simp only [aC]
  refine Bv F R y ⟨_,_,rfl,?_⟩
  obtain ⟨a,C,_⟩:=SlV.at m.sl (i:=k) (by simp;omega)
  refine ⟨a,C,by omega,by omega,m.storeN E2 C (by omega) ?_⟩
  intro h' L
  rw [B5 (n:=(k:Int)+1) (by omega) (by omega)]
  refine ⟨⟨k+1,_,_,rfl,by omega,by simpa using j,q.set (Cs _),by omega,L,?_,?_⟩,by simp only [iAt,aH,aO];omega⟩
  ·rw [E5 (by omega)];exact F1 d
  ·rw [D5 (by omega),G2,aF,aI (by omega),aZ,Ms,J,O,<- s]
   grind
 ·have r:k=ys.length:=by omega
  subst r
  rw [aV] at z
  refine ⟨fun l x=>∃ (k:Nat) (c:Int) (zs:List Int),l=[U c,I k]/\ys.length<=k/\k<=xs.length/\zs.length=xs.length/\Dig b64 zs/\(0<=c/\c<=1)/\Win .u64 x g b e A pre zs post/\zs.drop k=xs.drop k/\val b64 (zs.take k)+c*b64^k=val b64 (xs.take k)+val b64 ys,fun l _=>xs.length-(iAt l 1).toNat,⟨ys.length,c,zs,rfl,by omega,by omega,j,q,y,m,d,z⟩,?_⟩
  clear z d m q j y M D
  rintro c i x ⟨k,H,zs,u,Q,M,j,q,y,m,d,z⟩
  obtain ⟨rfl,rfl⟩:c=H/\i=(k:Int):=by simpa using u
  have p:=G4 b64 zs (i:=k) (by omega)
  have o:=G4 b64 xs (i:=k) (by omega)
  refine J9 (fun N=>B3 (fun D=>?_) (fun D=>?_)) (fun N=>?_)
  ·have F:=J5 q k
   have s:=G6 d
   have J:=C6 b64 xs k
   refine m.sl.load j.symm (by omega) (by omega) ?_
   simp only [aC]
   refine Bv F (by omega) y ⟨_,_,rfl,?_⟩
   obtain ⟨a,C,_⟩:=SlV.at m.sl (i:=k) (by simp;omega)
   refine ⟨a,C,by omega,by omega,m.storeN E2 C (by omega) ?_⟩
   intro h' L
   rw [B5 (n:=(k:Int)+1) (by omega) (by omega)]
   refine ⟨⟨k+1,_,_,rfl,by omega,by omega,by simpa using j,q.set (Cs _),by omega,L,?_,?_⟩,by simp only [iAt,aH,aO];omega⟩
   ·rw [E5 (by omega)];exact F1 d
   ·rw [D5 (by omega),G2,aF,aI (by omega),aZ,Ms,J,<- s]
    grind
  ·exfalso
   have r:k=xs.length:=by omega
   subst r
   have E:c=1:=by omega
   subst E
   rw [aV] at z
   have:=C1 (by decide) (q.take xs.length)
   omega
  ·have G:c=0:=by omega
   subst G
   refine hK zs x j q ?_ m
   rw [p,o,d];omega
def Co{xs ys:List Int}{an bn:Nat}(w:Win .u64 h g b e A pre xs post)(hn:an=xs.length)(sy:SlI .u64 g B ys)(hm:bn=ys.length)(dx:Dig b64 xs)(dy:Dig b64 ys)(hle:ys.length<=xs.length)(hfit:val b64 ys<=val b64 xs)(hl:xs.length<=10000000000)
 (hK:∀ xs' h',xs'.length=xs.length->Dig b64 xs'->val b64 xs'=val b64 xs-val b64 ys->Win .u64 h' g b e A pre xs' post->K (.tuple #[]) h'):aY prog S7 #[.slice A an ac,.slice B bn bc] h K:=by
 subst hn hm
 refine Om _ _ _ _ _ _ ?_
 unfold Kt
 have key:∀ {z y c:Int},(0<=z/\z<18446744073709551616)->(0<=y/\y<18446744073709551616)->(0<=c/\c<=1)->(z-y-c)%18446744073709551616=z-y-c+18446744073709551616*(if z-y-c<0 then 1 else 0):=by
  intro z y c V W r;split<;>omega
 refine ⟨fun l D=>∃ (k:Nat) (c:Int) (zs:List Int),l=[U c,I k]/\k<=ys.length/\zs.length=xs.length/\Dig b64 zs/\(0<=c/\c<=1)/\Win .u64 D g b e A pre zs post/\zs.drop k=xs.drop k/\val b64 (zs.take k)=val b64 (xs.take k)-val b64 (ys.take k)+c*b64^k,fun l _=>ys.length-(iAt l 1).toNat,⟨0,0,xs,rfl,by omega,rfl,dx,by omega,w,rfl,by simp [val]⟩,?_⟩
 rintro c i D ⟨k,L,zs,x,Q,j,q,r,m,d,C⟩
 obtain ⟨rfl,rfl⟩:c=L/\i=(k:Int):=by simpa using x
 refine B3 (fun G=>?_) (fun G=>?_)
 ·have O:=J5 dy k
  have E:=J5 q k
  have u:=G6 d
  have M:=C6 b64 xs k
  have S:=C6 b64 ys k
  refine (sy.mono m.le).load rfl (by omega) (by omega) ?_
  refine m.sl.load j.symm (by omega) (by omega) ?_
  simp only [aC]
  refine Dn E O r ⟨_,_,rfl,?_⟩
  obtain ⟨a,F,_⟩:=SlV.at m.sl (i:=k) (by simp;omega)
  refine ⟨a,F,by omega,by omega,m.storeN E2 F (by omega) ?_⟩
  intro h' N
  rw [B5 (n:=(k:Int)+1) (by omega) (by omega)]
  refine ⟨⟨k+1,_,_,rfl,by omega,by simpa using j,q.set (Cs _),by split<;>omega,N,?_,?_⟩,by simp only [iAt,aH,aO];omega⟩
  ·rw [E5 (by omega)];exact F1 d
  ·rw [D5 (by omega),G2,aF,aI (by omega),aZ,M,S,<- u,C,key E O r]
   grind
 ·have s:k=ys.length:=by omega
  subst s
  rw [aV] at C
  refine ⟨fun l D=>∃ (k:Nat) (c:Int) (zs:List Int),l=[U c,I k]/\ys.length<=k/\k<=xs.length/\zs.length=xs.length/\Dig b64 zs/\(0<=c/\c<=1)/\Win .u64 D g b e A pre zs post/\zs.drop k=xs.drop k/\val b64 (zs.take k)=val b64 (xs.take k)-val b64 ys+c*b64^k,fun l _=>xs.length-(iAt l 1).toNat,⟨ys.length,c,zs,rfl,by omega,by omega,j,q,r,m,d,C⟩,?_⟩
  clear C d m q j r Q G
  rintro c i D ⟨k,L,zs,x,T,Q,j,q,r,m,d,C⟩
  obtain ⟨rfl,rfl⟩:c=L/\i=(k:Int):=by simpa using x
  have p:=G4 b64 zs (i:=k) (by omega)
  have o:=G4 b64 xs (i:=k) (by omega)
  refine J9 (fun R=>B3 (fun G=>?_) (fun G=>?_)) (fun R=>?_)
  ·have E:=J5 q k
   have u:=G6 d
   have M:=C6 b64 xs k
   refine m.sl.load j.symm (by omega) (by omega) ?_
   simp only [aC]
   refine Dn E (by omega) r ⟨_,_,rfl,?_⟩
   obtain ⟨a,F,_⟩:=SlV.at m.sl (i:=k) (by simp;omega)
   refine ⟨a,F,by omega,by omega,m.storeN E2 F (by omega) ?_⟩
   intro h' N
   rw [B5 (n:=(k:Int)+1) (by omega) (by omega)]
   refine ⟨⟨k+1,_,_,rfl,by omega,by omega,by simpa using j,q.set (Cs _),by split<;>omega,N,?_,?_⟩,by simp only [iAt,aH,aO];omega⟩
   ·rw [E5 (by omega)];exact F1 d
   ·rw [D5 (by omega),G2,aF,aI (by omega),aZ,M,<- u,C,key E (y:=0) (by omega) r]
    grind
  ·exfalso
   have s:k=xs.length:=by omega
   subst s
   have H:c=1:=by omega
   subst H
   rw [aV] at C
   have:=N5 (by decide) (q.take xs.length)
   rw [aF,aI (by omega)] at this
   omega
  ·have J:c=0:=by omega
   subst J
   refine hK zs D j q ?_ m
   rw [p,o,d];omega
def Xs{x y:Int}{an bn:Nat}(ma:Mw h A an x)(mb:Mw h B bn y)(hab:bn<=an)(hl:an<=4000000000)(hb0:bn≠0)(hK:∀ A' m c' h',h.le h'->m<=c'->Mw h' A' m (x+y)->K (.slice A' m c') h'):
 wpH prog (Instr.makeSlice V3 (I (B4 ((an:Int)+1))) (I (B4 ((an:Int)+1)))) (fun v hp1=>∃ (t20A:Option bN) (t20n:Nat) (t20c:Nat),v= .slice t20A t20n t20c/\∀ ty,wpH prog (dM #[V3,V3] ty #[.slice t20A t20n t20c,.slice A an ac]) (fun v1 hp2=>∃ (t23:Int),v1=I t23/\aY prog R6 #[.slice t20A t20n t20c,.slice B bn bc] hp2 (fun r hp3=>r= .tuple #[]/\aY prog F8 #[.slice t20A t20n t20c] hp3 (fun r1 hp4=>∃ (t28A:Option bN) (t28n:Nat) (t28c:Nat),r1= .slice t28A t28n t28c/\K (.slice t28A t28n t28c) hp4))) hp1) h:=by
 obtain ⟨xs,rfl,F,k,N,rfl⟩:=ma
 obtain ⟨J,rfl,E,n,L,rfl⟩:=mb
 have C:B4 ((xs.length:Int)+1)=((xs.length+1:Nat):Int):=by rw [B5 (by omega) (by omega)];omega
 rw [C]
 refine P2 K9 (by omega) (by omega) (by omega) ?_
 intro b w
 rw [aC]
 refine ⟨_,_,_,rfl,fun ty=>?_⟩
 have l:=Win.blk .u64 B7 w (aE (xs.length+1) 0)
 refine Ay K9 l (by simp) (SlI.mono l.le F) rfl (by simp) ?_
 intro M o
 refine ⟨_,rfl,?_⟩
 have a:(aE (xs.length+1) (0:Int)).drop xs.length=[0]:=by rw [bA];simp [cG]
 rw [a] at o
 have d:val b64 (xs++[0])=val b64 xs:=by rw [G2];omega
 have z:=N5 (by decide) k
 have s:=N5 (by decide) n
 have u:=D3 (B:=b64) (by decide) hab
 have e:b64^(xs.length+1)=b64^xs.length*18446744073709551616:=aZ _ _
 have G:=D4 (B:=b64) (by decide) xs.length
 refine Fz o (by simp) E rfl (k.append (Dig.one (by decide))) n (by simp;omega) ?_ (by simp;omega) ?_
 ·rw [d,aN,List.length_singleton,e];omega
 intro zs H g j i p
 refine ⟨rfl,?_⟩
 have c:zs.length=xs.length+1:=by rw [g];simp
 rw [<- c]
 refine N4 p.sl j (by omega) (by omega) ?_
 intro m D q
 rw [i,d] at q
 exact ⟨_,_,_,rfl,hK _ _ _ _ p.le D q⟩
def P3{x y:Int}{an bn:Nat}(ma:Mw h A an x)(mb:Mw h B bn y)(ha:an<=ac)(hb:bn<=bc)(hl:an<=4000000000)(hl2:bn<=4000000000)(hK:∀ A' m c' h',h.le h'->m<=c'->Mw h' A' m (x+y)->K (.slice A' m c') h'):aY prog K7 #[.slice A an ac,.slice B bn bc] h K:=by
 refine A0q _ _ _ _ _ _ ?_
 unfold A0r
 refine ⟨fun l h'=>h'=h/\∃ (A1 B1:Option bN) (c d c1 c2:Nat) (i g:Int),l=[.slice A1 c c1,.slice B1 d c2]/\Mw h A1 c i/\Mw h B1 d g/\d<=c/\c<=4000000000/\c<=c1/\i+g=x+y,B3 (fun w=>?_) (fun w=>?_),?_⟩
 ·exact ⟨rfl,_,_,_,_,_,_,y,x,rfl,mb,ma,by omega,hl2,hb,dU _ _⟩
 ·exact ⟨rfl,_,_,_,_,_,_,x,y,rfl,ma,mb,by omega,hl,ha,rfl⟩
 ·rintro A1 c c1 B1 d c2 D ⟨rfl,A1',B1',n,b,j,a,i,g,o,r,q,C,k,e,p⟩
  obtain ⟨⟨rfl,rfl,rfl⟩,rfl,rfl,rfl⟩:(A1=A1'/\c=n/\c1=j)/\B1=B1'/\d=b/\c2=a:=by simpa using o
  rw [<- p] at hK
  refine E7 (fun s=>?_) (fun s=>?_)
  ·have:=(q.len_zero (by decide)).2 (by omega)
   subst this
   rw [eP] at hK
   exact hK _ _ _ _ (B0 _) e r
  ·refine Gn _ (Xs (ac:=c1) (bc:=c2) r q C k (by omega) hK) ?_
   rintro v h' ⟨A2,b,a,u,z⟩
   exact ⟨A2,b,a,u,z _⟩
def F4{x y:Int}{an bn:Nat}(ma:Mw h A an x)(mb:Mw h B bn y)(ha:an<=ac)(hl:an<=4000000000)(hxy:y<=x)(hK:∀ A' m c' h',h.le h'->m<=c'->Mw h' A' m (x-y)->K (.slice A' m c') h'):aY prog F0 #[.slice A an ac,.slice B bn bc] h K:=by
 have a:bn<=an:=mb.len_le (by decide) (cJ hxy (ma.lt (by decide)))
 refine Mx _ _ _ _ _ _ ?_
 unfold Hy
 refine E7 (fun n=>?_) (fun n=>?_)
 ·have:=(mb.len_zero (by decide)).2 (by omega)
  subst this
  rw [Int.sub_zero] at hK
  exact hK _ _ _ _ (B0 _) ha ma
 ·obtain ⟨xs,rfl,s,o,E,rfl⟩:=ma
  obtain ⟨w,rfl,r,p,z,rfl⟩:=mb
  refine Cz s rfl (by omega) ?_
  intro A1 c1 C F l d
  refine ⟨_,_,_,rfl,?_⟩
  obtain ⟨b,j,q⟩:=d.win (by rintro rfl;rw [List.length_nil] at a;omega)
  refine Co q rfl (r.mono l) rfl o p a hxy (by omega) ?_
  intro zs u c g e i
  refine ⟨rfl,?_⟩
  rw [<- c]
  refine N4 i.sl g (by have:=d.2.1;omega) (by omega) ?_
  intro m D k
  rw [e] at k
  exact ⟨_,_,_,rfl,hK _ _ _ _ (Heap.le_trans l i.le) (by have:=d.2.1;omega) k⟩
def Fy{zs xs:List Int}{an bn:Nat}{wd:Int}(w:Win .u64 h g b e A pre zs post)(hn:an=zs.length)(sx:SlI .u64 g B xs)(hm:bn=xs.length)(dz:Dig b64 zs)(dx:Dig b64 xs)(hle:zs.length=xs.length)(hw:0<=wd/\wd<18446744073709551616)(hl:xs.length<=10000000000)
 (hK:∀ zs' c h',zs'.length=zs.length->Dig b64 zs'->(0<=c/\c<18446744073709551616)->val b64 zs'+c*b64^zs.length=val b64 zs+val b64 xs*wd->Win .u64 h' g b e A pre zs' post->K (U c) h'):aY prog Ac #[.slice A an ac,.slice B bn bc,U wd] h K:=by
 subst hn hm
 refine Tg _ _ _ _ _ _ _ ?_
 unfold Sb
 refine ⟨fun l u=>∃ (k:Nat) (c:Int) (d:List Int),l=[U c,I k]/\k<=xs.length/\d.length=zs.length/\Dig b64 d/\(0<=c/\c<18446744073709551616)/\Win .u64 u g b e A pre d post/\d.drop k=zs.drop k/\val b64 (d.take k)+c*b64^k=val b64 (zs.take k)+val b64 (xs.take k)*wd,fun l _=>xs.length-(iAt l 1).toNat,⟨0,0,zs,rfl,by omega,rfl,dz,by omega,w,rfl,by simp [val]⟩,?_⟩
 rintro c i u ⟨k,E,d,s,L,j,p,y,o,m,z⟩
 obtain ⟨rfl,rfl⟩:c=E/\i=(k:Int):=by simpa using s
 refine B3 (fun H=>?_) (fun H=>?_)
 ·have x:=J5 dx k
  have D:=J5 p k
  have r:=G6 m
  have F:=C6 b64 xs k
  have J:=C6 b64 zs k
  have hm:0<=xs.getD k 0*wd/\xs.getD k 0*wd<=18446744073709551615*18446744073709551615:=⟨aQ x.1 hw.1,dH (by omega) (by omega) hw.1 (by decide)⟩
  refine (sx.mono o.le).load rfl (by omega) (by omega) ?_
  rw [aC]
  refine Jx x hw ⟨_,_,rfl,?_⟩
  generalize hmm:xs.getD k 0*wd=mm at *
  refine Bv (by omega) y (by omega) ⟨_,_,rfl,?_⟩
  refine o.sl.load j.symm (by omega) (by omega) ?_
  rw [aC]
  refine Bv D (by omega) (by omega) ⟨_,_,rfl,?_⟩
  obtain ⟨a,C,_⟩:=SlV.at o.sl (i:=k) (by simp;omega)
  refine ⟨a,C,by omega,by omega,o.storeN E2 C (by omega) ?_⟩
  intro h' G
  rw [B5 (n:=(k:Int)+1) (by omega) (by omega)]
  rw [C2 (n:=mm/18446744073709551616+(mm%18446744073709551616+c+0)/18446744073709551616) (by omega) (by omega)]
  rw [C2 (by omega) (by omega)]
  refine ⟨⟨k+1,_,_,rfl,by omega,by simpa using j,p.set (Cs _),by omega,G,?_,?_⟩,by simp only [iAt,aH,aO];omega⟩
  ·rw [E5 (by omega)];exact F1 m
  ·rw [D5 (by omega),G2,aF,aI (by omega),aZ,F,J,<- r]
   have key:(d.getD k 0+(mm%18446744073709551616+c+0)%18446744073709551616+0)%18446744073709551616+18446744073709551616*(mm/18446744073709551616+(mm%18446744073709551616+c+0)/18446744073709551616+(d.getD k 0+(mm%18446744073709551616+c+0)%18446744073709551616+0)/18446744073709551616)=d.getD k 0+mm+c:=by omega
   generalize (d.getD k 0+(mm%18446744073709551616+c+0)%18446744073709551616+0)%18446744073709551616=dg at *
   generalize mm/18446744073709551616+(mm%18446744073709551616+c+0)/18446744073709551616+(d.getD k 0+(mm%18446744073709551616+c+0)%18446744073709551616+0)/18446744073709551616=cn at *
   rw [<- hmm] at key
   grind
 ·have q:k=xs.length:=by omega
  subst q
  rw [aV,<- hle,aV,<- j,aV] at z
  exact hK d c u j p y (by rw [<- j];exact z) o
def Hk{zs xs:List Int}{an bn:Nat}{wd:Int}(w:Win .u64 h g b e A pre zs post)(hn:an=zs.length)(sx:SlI .u64 g B xs)(hm:bn=xs.length)(dz:Dig b64 zs)(dx:Dig b64 xs)(hle:zs.length=xs.length)(hw:0<=wd/\wd<18446744073709551616)(hl:xs.length<=10000000000)
 (hK:∀ zs' c h',zs'.length=zs.length->Dig b64 zs'->(0<=c/\c<18446744073709551616)->val b64 zs'=val b64 zs-val b64 xs*wd+c*b64^zs.length->Win .u64 h' g b e A pre zs' post->K (U c) h'):aY prog S6 #[.slice A an ac,.slice B bn bc,U wd] h K:=by
 subst hn hm
 refine Iy _ _ _ _ _ _ _ ?_
 unfold Em
 refine ⟨fun l x=>∃ (k:Nat) (c:Int) (j:List Int),l=[U c,I k]/\k<=xs.length/\j.length=zs.length/\Dig b64 j/\(0<=c/\c<18446744073709551616)/\Win .u64 x g b e A pre j post/\j.drop k=zs.drop k/\val b64 (j.take k)=val b64 (zs.take k)-val b64 (xs.take k)*wd+c*b64^k,fun l _=>xs.length-(iAt l 1).toNat,⟨0,0,zs,rfl,by omega,rfl,dz,by omega,w,rfl,by simp [val]⟩,?_⟩
 rintro c i x ⟨k,E,j,s,L,d,p,z,o,m,u⟩
 obtain ⟨rfl,rfl⟩:c=E/\i=(k:Int):=by simpa using s
 refine B3 (fun H=>?_) (fun H=>?_)
 ·have y:=J5 dx k
  have D:=J5 p k
  have r:=G6 m
  have F:=C6 b64 xs k
  have J:=C6 b64 zs k
  have hm:0<=xs.getD k 0*wd/\xs.getD k 0*wd<=18446744073709551615*18446744073709551615:=⟨aQ y.1 hw.1,dH (by omega) (by omega) hw.1 (by decide)⟩
  refine (sx.mono o.le).load rfl (by omega) (by omega) ?_
  rw [aC]
  refine Jx y hw ⟨_,_,rfl,?_⟩
  generalize hmm:xs.getD k 0*wd=mm at *
  refine Bv (by omega) z (by omega) ⟨_,_,rfl,?_⟩
  refine o.sl.load d.symm (by omega) (by omega) ?_
  rw [aC]
  refine Dn D (by omega) (by omega) ⟨_,_,rfl,?_⟩
  obtain ⟨a,C,_⟩:=SlV.at o.sl (i:=k) (by simp;omega)
  refine ⟨a,C,by omega,by omega,o.storeN E2 C (by omega) ?_⟩
  intro h' G
  rw [B5 (n:=(k:Int)+1) (by omega) (by omega)]
  rw [C2 (n:=mm/18446744073709551616+(mm%18446744073709551616+c+0)/18446744073709551616) (by omega) (by omega)]
  rw [C2 (by split<;>omega) (by split<;>omega)]
  refine ⟨⟨k+1,_,_,rfl,by omega,by simpa using d,p.set (Cs _),by split<;>omega,G,?_,?_⟩,by simp only [iAt,aH,aO];omega⟩
  ·rw [E5 (by omega)];exact F1 m
  ·rw [D5 (by omega),G2,aF,aI (by omega),aZ,F,J,<- r,u]
   have key:(j.getD k 0-(mm%18446744073709551616+c+0)%18446744073709551616-0)%18446744073709551616=j.getD k 0-mm-c+18446744073709551616*(mm/18446744073709551616+(mm%18446744073709551616+c+0)/18446744073709551616+(if j.getD k 0-(mm%18446744073709551616+c+0)%18446744073709551616-0<0 then 1 else 0)):=by split<;>omega
   rw [key]
   generalize mm/18446744073709551616+(mm%18446744073709551616+c+0)/18446744073709551616+(if j.getD k 0-(mm%18446744073709551616+c+0)%18446744073709551616-0<0 then 1 else 0)=cn at *
   rw [<- hmm]
   grind
 ·have q:k=xs.length:=by omega
  subst q
  rw [aV,<- hle,aV,<- d,aV] at u
  exact hK j c x d p z (by rw [<- d];exact u) o
end
def Uc{x z:Int}{s:Nat}(hs:s<=64)(_hx:0<=x/\x<18446744073709551616)(hz:0<=z/\z<(2:Int)^s):
 bor .u64 z (x*2^s%18446744073709551616)=z+x*2^s%18446744073709551616/\z+x*2^s%18446744073709551616<18446744073709551616/\x*2^s%18446744073709551616=2^s*(x%2^(64-s)):=by
 have l:=W7 hs
 have d:0<(2:Int)^s:=bG (by decide)
 have k:0<(2:Int)^(64-s):=bG (by decide)
 have a:z<18446744073709551616:=by
  have:(2:Int)^s*1<=2^s*2^(64-s):=aG (by omega) (by omega)
  omega
 have j:x*2^s%18446744073709551616=2^s*(x%2^(64-s)):=by
  rw [<- l,aP x,Int.mul_emod_mul_of_pos _ _ d]
 have e:=Cs (x*2^s)
 have c:0<=x%2^(64-s):=aR _ (by omega)
 have i:(x*2^s%18446744073709551616).toNat=2^s*(x%2^(64-s)).toNat:=by
  rw [j,Int.toNat_mul (by omega) c]
  rw [fI (by decide)];rfl
 have g:z.toNat<2^s:=by
  have:((2^s:Nat):Int)=(2:Int)^s:=by simp
  omega
 have b:bor .u64 z (x*2^s%18446744073709551616)=z+x*2^s%18446744073709551616:=by
  rw [A5b ⟨hz.1,a⟩ e,i,Nat.or_comm,B37 g,<- i]
  omega
 refine ⟨b,?_,j⟩
 rw [<- b,A5b ⟨hz.1,a⟩ e]
 have:z.toNat ||| (x*2^s%18446744073709551616).toNat<2^64:=Nat.or_lt_two_pow (by omega) (by have:=e.2;show _<_;omega)
 omega
def Fi(k:Nat):b64^k=(2:Int)^(64*k):=by
 rw [show b64=(2:Int)^64 by decide,<- Int.pow_mul]
section
variable {h g:bJ} {K:VP} {A B:Option bN} {ac bc:Nat}
def S0{x:Int}{an s:Nat}(ma:Mw h A an x)(ha:an<=ac)(hl:an<=1000000000)(hs:s<=10000000000)(hK:∀ A' m c' h',h.le h'->m<=c'->Mw h' A' m (x*2^s)->K (.slice A' m c') h'):aY prog R2 #[.slice A an ac,U s] h K:=by
 have p:=ma.len_zero (by decide)
 refine Xt _ _ _ _ ?_
 unfold Uu
 refine E7 (fun L=>?_) (fun L=>E7 (fun u=>?_) (fun u=>?_))
 ·have:=p.2 (by omega)
  subst this
  rw [dR] at hK
  exact hK _ _ _ _ (B0 _) ha ma
 ·have:s=0:=by omega
  subst this
  rw [fP,Int.mul_one] at hK
  exact hK _ _ _ _ (B0 _) ha ma
 ·obtain ⟨xs,rfl,sx,M,nx,rfl⟩:=ma
  obtain ⟨k0,hk0⟩:∃ k0,k0=s/64:=⟨_,rfl⟩
  obtain ⟨r,hr⟩:∃ r,r=s%64:=⟨_,rfl⟩
  have ed:B4 (C0 (dF (s:Int) 64))=(k0:Int):=by
   rw [bB (by omega),C2 (by omega) (by omega),B5 (by omega) (by omega)];omega
  have R:Int.tmod (s:Int) 64=(r:Int):=by rw [bW (by omega)];omega
  have er:C0 ((64:Int)-(r:Int))=((64-r:Nat):Int):=by rw [C2 (by omega) (by omega)];omega
  simp only [ed,R,er,aC]
  have X:B4 (B4 ((xs.length:Int)+k0)+1)=((xs.length+k0+1:Nat):Int):=by rw [B5 (n:=(xs.length:Int)+k0) (by omega) (by omega),B5 (by omega) (by omega)];omega
  rw [X]
  refine P2 K9 (by omega) (by omega) (by omega) ?_
  intro b G
  rw [aC]
  refine ⟨_,_,_,rfl,?_⟩
  have o:0<(2:Int)^r:=bG (by decide)
  have z:0<(2:Int)^(64-r):=bG (by decide)
  have d:=W7 (s:=r) (by omega)
  refine ⟨fun l h'=>∃ (k:Nat) (zs:List Int),l=[I k]/\k<=xs.length/\zs.length=xs.length+k0+1/\Dig b64 zs/\h'=blk .u64 B7 h b zs/\zs.drop (k+k0+1)=aE (xs.length-k) 0/\zs.getD (k+k0) 0<2^r/\val b64 (zs.take (k+k0+1))=val b64 (xs.take k)*2^s,fun l _=>xs.length-(iAt l 0).toNat,⟨0,_,rfl,by omega,by simp,J7 (by decide) _,rfl,?_,?_,?_⟩,?_⟩
  ·rw [bA];congr 1;omega
  ·have:(aE (xs.length+k0+1) (0:Int)).getD (0+k0) 0=0:=by simp [cK,List.getElem?_replicate];split<;>rfl
   rw [this];exact o
  ·rw [cF,Cm];simp [val]
  rintro i hp ⟨k,zs,E,hk,a,q,rfl,g,J,c⟩
  obtain rfl:=sI1 E
  have C:=Kp (k:=.u64) (e:=B7) G zs
  refine B3 (fun u=>?_) (fun u=>?_)
  ·have y:=J5 M k
   have Q:=J5 q (k+k0)
   have V:=C6 b64 xs k
   have vz:=C6 b64 zs (k+k0)
   have S:B4 ((k:Int)+k0)=((k+k0:Nat):Int):=by rw [B5 (by omega) (by omega)];omega
   have e3:B4 (((k+k0:Nat):Int)+1)=((k+k0+1:Nat):Int):=by rw [B5 (by omega) (by omega)];omega
   rw [S,e3]
   refine (sx.mono C).load rfl (by omega) (by omega) ?_
   refine (Rn .u64 B7 h b zs).load a.symm (by omega) (by omega) ?_
   simp only [aC]
   refine B3 (fun e=>absurd e (by omega)) (fun _=>?_)
   refine ⟨_,rfl,by omega,by omega,?_⟩
   obtain ⟨W,O,o3⟩:=Uc (s:=r) (by omega) y ⟨Q.1,J⟩
   rw [aI (show r<=64 by omega),F3,W,B0j (show 64-r<=64 by omega)]
   have aa:=Cs (xs.getD k 0*2^r)
   refine Da (zs:=zs) (i:=k+k0) E2 (by first|omega|(rw [bL];omega)) ?_
   refine B3 (fun e=>absurd e (by omega)) (fun _=>?_)
   refine ⟨_,rfl,by omega,by omega,?_⟩
   refine Da (zs:=zs.set (k+k0) (zs.getD (k+k0) 0+xs.getD k 0*2^r%18446744073709551616)) (i:=k+k0+1) E2 (by first|omega|(rw [bL];omega)) ?_
   have F:0<=xs.getD k 0/2^(64-r)/\xs.getD k 0/2^(64-r)<2^r:=⟨bM y.1 (by omega),bC z (by rw [d];exact y.2)⟩
   have N:(2:Int)^r<=9223372036854775808:=by
    have:=D3 (B:=2) (by decide) (show r<=63 by omega)
    have e:(2:Int)^63=9223372036854775808:=by decide
    omega
   rw [B5 (n:=(k:Int)+1) (by omega) (by omega)]
   refine ⟨⟨k+1,(zs.set (k+k0) (zs.getD (k+k0) 0+xs.getD k 0*2^r%18446744073709551616)).set (k+k0+1) (xs.getD k 0/2^(64-r)),rfl,by omega,by simpa using a,(q.set ⟨by omega,O⟩).set ⟨F.1,by show _<(18446744073709551616:Int);omega⟩,rfl,?_,?_,?_⟩,by simp only [iAt,aH];omega⟩
   ·rw [show k+1+k0+1=(k+k0+1)+1 by omega,E5 (by omega),E5 (by omega),<- cM,g,bA]
    congr 1
   ·rw [show k+1+k0=k+k0+1 by omega]
    have:((zs.set (k+k0) (zs.getD (k+k0) 0+xs.getD k 0*2^r%18446744073709551616)).set (k+k0+1) (xs.getD k 0/2^(64-r))).getD (k+k0+1) 0=xs.getD k 0/2^(64-r):=by
     rw [cK,fO (by rw [bL];omega)];rfl
    rw [this];exact F.2
   ·rw [show k+1+k0+1=(k+k0+1)+1 by omega,D5 (by rw [bL];omega),G2,D5 (by omega),G2]
    simp only [aF,aN,List.length_singleton]
    rw [aI (show k+k0<=zs.length by omega),aZ,V]
    rw [vz] at c
    have j:(2:Int)^s=b64^k0*2^r:=by
     rw [Fi,<- aW];congr 1;omega
    have D:b64^(k+k0)=b64^k*b64^k0:=aW _ _ _
    have ab:=aK (xs.getD k 0) (2^(64-r))
    have key:xs.getD k 0*2^r%18446744073709551616+18446744073709551616*(xs.getD k 0/2^(64-r))=xs.getD k 0*2^r:=by
     rw [o3,<- d,cD,<- cI]
     have:xs.getD k 0%2^(64-r)+2^(64-r)*(xs.getD k 0/2^(64-r))=xs.getD k 0:=by omega
     rw [this,aP]
    generalize xs.getD k 0*2^r%18446744073709551616=lo at *
    generalize xs.getD k 0/2^(64-r)=hi at *
    rw [j] at c ⊢
    rw [D] at c ⊢
    have T:(val b64 (xs.take k)+b64^k*xs.getD k 0)*(b64^k0*2^r)=val b64 (xs.take k)*(b64^k0*2^r)+b64^k*b64^k0*(xs.getD k 0*2^r):=by grind
    rw [T,<- c,<- key]
    grind
  ·have w:k=xs.length:=by omega
   subst w
   rw [aV,aM (by omega)] at c
   rw [<- a]
   refine N4 (Rn _ _ _ _ _) q (bD _) (by omega) ?_
   intro m Z H
   rw [c] at H
   exact ⟨_,_,_,rfl,hK _ _ _ _ (Kp G _) Z H⟩
def Ei{x:Int}{an s:Nat}(ma:Mw h A an x)(hl:an<=1000000000)(hs:s<=1000000000000)(hK:∀ A' m c' h',h.le h'->m<=c'->Mw h' A' m (x/2^s)->K (.slice A' m c') h'):aY prog Aa #[.slice A an ac,U s] h K:=by
 have M:=ma.nonneg (by decide)
 have ad:=ma.lt (by decide)
 refine Ta _ _ _ _ ?_
 unfold Rs
 obtain ⟨k0,hk0⟩:∃ k0,k0=s/64:=⟨_,rfl⟩
 obtain ⟨r,hr⟩:∃ r,r=s%64:=⟨_,rfl⟩
 have H:C0 (dF (s:Int) 64)=(k0:Int):=by
  rw [bB (by omega),C2 (by omega) (by omega)];omega
 have E:B4 (k0:Int)=(k0:Int):=B5 (by omega) (by omega)
 have em:Int.tmod (s:Int) 64=(r:Int):=by rw [bW (by omega)];omega
 have er:C0 ((64:Int)-(r:Int))=((64-r:Nat):Int):=by rw [C2 (by omega) (by omega)];omega
 have en:C0 (an:Int)=(an:Int):=C2 (by omega) (by omega)
 simp only [H,E,em,er,en,aC]
 have g:(2:Int)^s=b64^k0*2^r:=by
  rw [Fi,<- aW];congr 1;omega
 refine B3 (fun h1=>?_) (fun h1=>?_)
 ·have:x/2^s=0:=by
   apply bK M
   rw [g]
   have G:=D3 (B:=b64) (by decide) (show an<=k0 by omega)
   have t2:b64^k0*1<=b64^k0*2^r:=aG (by have:0<(2:Int)^r:=bG (by decide);omega) (aL (D4 (by decide) _))
   omega
  rw [this] at hK
  exact hK _ _ _ _ (B0 _) (bD _) Mag.zero
 ·obtain ⟨xs,rfl,Z,p,nx,rfl⟩:=ma
  have J:B4 ((xs.length:Int)-k0)=((xs.length-k0:Nat):Int):=by rw [B5 (by omega) (by omega)];omega
  rw [J]
  refine P2 K9 (by omega) (by omega) (by omega) ?_
  intro b V
  rw [aC]
  refine ⟨_,_,_,rfl,?_⟩
  have X:0<(2:Int)^r:=bG (by decide)
  have a:=W7 (s:=r) (by omega)
  have N:0<(2:Int)^(64-r):=bG (by decide)
  have ae:(xs.drop k0).length=xs.length-k0:=aS
  have n:∀ i,(xs.drop k0).getD i 0=xs.getD (k0+i) 0:=fun i=>A7y
  refine ⟨fun l h'=>∃ (k:Nat) (zs:List Int),l=[I k]/\k<=xs.length-k0/\zs.length=xs.length-k0/\Dig b64 zs/\h'=blk .u64 B7 h b zs/\2^r*val b64 (zs.take k)+(xs.drop k0).getD 0 0%2^r=val b64 ((xs.drop k0).take k)+b64^k*((xs.drop k0).getD k 0%2^r),fun l _=>xs.length-(iAt l 0).toNat,⟨0,_,rfl,by omega,by simp,J7 (by decide) _,rfl,by simp [val]⟩,?_⟩
  rintro i ab ⟨k,zs,Q,hk,c,F,rfl,hv⟩
  obtain rfl:=sI1 Q
  have o:∀ zs,h.le (blk .u64 B7 h b zs):=fun zs=>Kp (k:=.u64) (e:=B7) V zs
  have T:=J5 (p.drop k0) k
  refine B3 (fun h2=>?_) (fun h2=>?_)
  ·have e2:B4 ((k:Int)+k0)=((k0+k:Nat):Int):=by rw [B5 (by omega) (by omega)];omega
   have e3:B4 (((k0+k:Nat):Int)+1)=((k0+(k+1):Nat):Int):=by rw [B5 (by omega) (by omega)];omega
   rw [e2,e3]
   refine (Z.mono (o zs)).load rfl (by omega) (by omega) ?_
   refine B3 (fun e=>absurd e (by omega)) (fun _=>?_)
   refine ⟨_,rfl,by omega,by omega,?_⟩
   simp only [aC]
   rw [<- n k,B0j (show r<=64 by omega)]
   have d:0<=(xs.drop k0).getD k 0/2^r:=bM T.1 (by omega)
   have D:(xs.drop k0).getD k 0/2^r<2^(64-r):=by
    apply bC X
    rw [aP,a];exact T.2
   have S:(2:Int)^(64-r)<=18446744073709551616:=by
    rw [<- a]
    have:=aD (show 1<=(2:Int)^r by omega) (aL N);omega
   refine Da (zs:=zs) (i:=k) E2 (by first|omega|(rw [bL];omega)) ?_
   have d1:Dig b64 (zs.set k ((xs.drop k0).getD k 0/2^r)):=F.set ⟨d,by show _<(18446744073709551616:Int);omega⟩
   have l1:(zs.set k ((xs.drop k0).getD k 0/2^r)).length=xs.length-k0:=by rw [bL];exact c
   have g1:(zs.set k ((xs.drop k0).getD k 0/2^r)).getD k 0=(xs.drop k0).getD k 0/2^r:=by simp [cK,show k<zs.length by omega]
   have vr:=C6 b64 (xs.drop k0) k
   have j:∀ z:Int,2^r*z=(xs.drop k0).getD k 0-(xs.drop k0).getD k 0%2^r+18446744073709551616*((xs.drop k0).getD (k+1) 0%2^r)->
    2^r*val b64 ((zs.set k z).take (k+1))+(xs.drop k0).getD 0 0%2^r=val b64 ((xs.drop k0).take (k+1))+b64^(k+1)*((xs.drop k0).getD (k+1) 0%2^r):=by
    intro z ez
    rw [D5 (by omega),G2,aF,aI (by omega),vr,aZ]
    have J:2^r*(val b64 (zs.take k)+b64^k*z)=2^r*val b64 (zs.take k)+b64^k*(2^r*z):=by grind
    rw [J,ez]
    grind
   have ag:=aK ((xs.drop k0).getD k 0) (2^r)
   have C:B4 ((k:Int)+1)=((k+1:Nat):Int):=by rw [B5 (by omega) (by omega)];omega
   rw [C]
   refine B3 (fun h3=>?_) (fun h3=>?_)
   ·have ld:=(Rn .u64 B7 h b (zs.set k ((xs.drop k0).getD k 0/2^r)))
    obtain ⟨aa,R,y⟩:=SlV.at ld (i:=k) (by simp;omega)
    refine ⟨aa,R,by omega,by omega,(xs.drop k0).getD k 0/2^r,?_,?_⟩
    ·rw [eB,y]
     congr 1
     simp only [List.getElem_map]
     congr 1
     simp
    refine (Z.mono (o _)).load rfl (by omega) (by omega) ?_
    refine B3 (fun e=>absurd e (by omega)) (fun _=>?_)
    refine ⟨_,rfl,by omega,by omega,?_⟩
    simp only [aC]
    rw [<- n (k+1)]
    have gr:=J5 (p.drop k0) (k+1)
    obtain ⟨o1,o2,o3⟩:=Uc (s:=64-r) (by omega) gr ⟨d,D⟩
    rw [aI (show 64-r<=64 by omega),F3,o1]
    refine Da (zs:=zs.set k ((xs.drop k0).getD k 0/2^r)) (i:=k) E2 (by first|omega|(rw [bL];omega)) ?_
    rw [List.set_set]
    have af:=Cs ((xs.drop k0).getD (k+1) 0*2^(64-r))
    refine ⟨⟨k+1,zs.set k ((xs.drop k0).getD k 0/2^r+(xs.drop k0).getD (k+1) 0*2^(64-r)%18446744073709551616),rfl,by omega,by simpa using c,F.set ⟨by omega,o2⟩,rfl,j _ ?_⟩,by simp only [iAt,aH];omega⟩
    rw [o3,show 64-(64-r)=r by omega,cI,<- cD,a]
    omega
   ·have w:(xs.drop k0).getD (k+1) 0=0:=by simp only [cK,bZ (show (xs.drop k0).length<=k+1 by omega)];rfl
    refine ⟨⟨k+1,zs.set k ((xs.drop k0).getD k 0/2^r),rfl,by omega,l1,d1,rfl,j _ ?_⟩,by simp only [iAt,aH];omega⟩
    rw [w,fF,eK,eP];omega
  ·have u:k=xs.length-k0:=by omega
   subst u
   have w:(xs.drop k0).getD (xs.length-k0) 0=0:=by simp only [cK,bZ (show (xs.drop k0).length<=xs.length-k0 by omega)];rfl
   rw [w,fF,eK,eP,aM (by omega),aM (by omega)] at hv
   have L:=aR ((xs.drop k0).getD 0 0) (show (2:Int)^r≠0 by omega)
   have q:=aJ ((xs.drop k0).getD 0 0) X
   have O:val b64 xs/2^s=val b64 zs:=by
    have sp:=G4 b64 xs (i:=k0) (by omega)
    have G:=N5 (by decide) (p.take k0)
    have t2:=C1 (by decide) (p.take k0)
    rw [aF,aI (by omega)] at G
    rw [g,<- dQ (aL (D4 (by decide) _)),sp,dZ _ _ (by have:=D4 (B:=b64) (by decide) k0;omega),bK t2 G,cO,<- hv,dU,dZ _ _ (by omega),bK L q,cO]
   rw [<- c]
   refine N4 (Rn _ _ _ _ _) F (bD _) (by omega) ?_
   intro m hm W
   rw [<- O] at W
   exact ⟨_,_,_,rfl,hK _ _ _ _ (Kp V _) hm W⟩
end
def Bf(B:Int)(xs:List Int)(n:Nat):val B (xs++aE n 0)=val B xs:=by rw [E8,Cm];omega
def Jw{xs:List Int}{k:Nat}(h:Norm xs)(hk:k<xs.length):Norm (xs.drop k):=by
 unfold Norm at *
 rwa [List.getLast?_drop,iN (by omega)]
def Mw.of{h:bJ}{A:Option bN}{xs:List Int}(s:SlI .u64 h A xs)(d:Dig b64 xs)(n:Norm xs):Mw h A xs.length (val b64 xs):=⟨xs,rfl,s,d,n,rfl⟩
def Xn{k:cV}{h:bJ}{A:Option bN}{xs:List Int}(s:SlI k h A xs){c l:Nat}(hl:l<=xs.length)(hc:xs.length<=c):SlI k h (J6 A c l 1) (xs.drop l):=by
 have:=s.cut (c:=c) (l:=l) (m:=xs.length) hl (bD _) hc
 rwa [aM (by rw [aS];omega)] at this
def Hh{k:cV}{h:bJ}{A:Option bN}{xs:List Int}(s:SlI k h A xs){c m:Nat}(hm:m<=xs.length)(hc:xs.length<=c):SlI k h A (xs.take m):=by
 have:=s.cut (c:=c) (l:=0) (m:=m) (by omega) hm hc
 simpa [L3] using this
def Z4{h:bJ}{K:VP}{A:Option bN}{ac n:Nat}{v:Int}{xs:List Int}(s:SlI .u64 h A xs)(hd:Dig b64 xs)(hn:n=xs.length)(hv:val b64 xs=v)(hc:n<=ac)(hl:n<=10000000000)(hK:∀ m,m<=n->Mw h A m v->K (.slice A m ac) h):aY prog F8 #[.slice A n ac] h K:=by
 subst hn hv
 exact N4 s hd hc hl hK
def B91(N:Nat):Prop:=∀ {h:bJ} {K:VP} {A B:Option bN} {ac bc an bn:Nat} {x y:Int},an+bn<=N->Mw h A an x->Mw h B bn y->an<=ac->bn<=bc->an<=1000000000->bn<=1000000000->
 (∀ A' m c' h',h.le h'->m<=c'->Mw h' A' m (x*y)->K (.slice A' m c') h')->aY prog C5 #[.slice A an ac,.slice B bn bc] h K
section
variable {h g:bJ} {K:VP} {A B:Option bN} {ac bc:Nat}
def B7j{xs ys:List Int}{b:Nat}(hb:h b=none)(sx:SlI .u64 h A xs)(dx:Dig b64 xs)(sy:SlI .u64 h B ys)(dy:Dig b64 ys)(hl:xs.length<=1000000000)(hl2:ys.length<=1000000000)
 (hK:∀ A' m c' h',h.le h'->m<=c'->Mw h' A' m (val b64 xs*val b64 ys)->K (.slice A' m c') h'):
 U9 prog K A xs.length ac B ys.length (some ⟨b,0,none⟩) (xs.length+ys.length) (xs.length+ys.length) (blk .u64 B7 h b (aE (xs.length+ys.length) 0)):=by
 unfold U9
 refine ⟨fun l E=>∃ (k:Nat) (zs:List Int),l=[I k]/\k<=ys.length/\zs.length=xs.length+ys.length/\Dig b64 zs/\Win .u64 E h b B7 (some ⟨b,0,none⟩) [] zs []/\zs.drop (k+xs.length)=aE (ys.length-k) 0/\val b64 (zs.take (k+xs.length))=val b64 xs*val b64 (ys.take k),fun l _=>ys.length-(iAt l 0).toNat,⟨0,_,rfl,by omega,by simp,J7 (by decide) _,Win.blk .u64 B7 hb _,?_,?_⟩,?_⟩
 ·rw [bA];congr 1;omega
 ·rw [cF,Cm];simp [val]
 rintro i E ⟨k,zs,z,S,r,g,w,o,C⟩
 obtain rfl:=sI1 z
 refine B3 (fun H=>?_) (fun H=>?_)
 ·have J:=J5 dy k
  have F:=C6 b64 ys k
  have L:B4 ((k:Int)+xs.length)=((k+xs.length:Nat):Int):=by rw [B5 (by omega) (by omega)];omega
  rw [L]
  refine (sy.mono w.le).load rfl (by omega) (by omega) ?_
  simp only [aC]
  refine ⟨⟨by omega,by omega⟩,⟨by omega,by omega⟩,?_⟩
  have a:((zs.drop k).take (k+xs.length-k)).length=xs.length:=by rw [aF,aS];omega
  refine Fy (w.sub (l:=k) (m:=k+xs.length) (c:=xs.length+ys.length) (by omega) (by omega) (by omega)) (by rw [a];omega) sx rfl ((g.drop k).take _) dx a J (by omega) ?_
  intro j c h' d e O s G
  rw [a] at d
  have N:=w.whole (l:=k) (m:=k+xs.length) (by omega) (by omega) (by omega) G
  refine ⟨_,rfl,_,rfl,by omega,by omega,?_⟩
  have q:(zs.take k++j++zs.drop (k+xs.length)).length=xs.length+ys.length:=by
   simp only [aN,aF,aS];omega
  refine N.storeN (i:=k+xs.length) E2 rfl (by omega) ?_
  intro R Q
  rw [B5 (n:=(k:Int)+1) (by omega) (by omega)]
  have x:(zs.take k++j++zs.drop (k+xs.length)).take (k+xs.length)=zs.take k++j:=by
   apply cP
   simp only [aN,aF];omega
  have p:(zs.take k++j++zs.drop (k+xs.length)).drop (k+xs.length)=zs.drop (k+xs.length):=by
   apply dD
   simp only [aN,aF];omega
  refine ⟨⟨k+1,_,rfl,by omega,by rw [bL];exact q,(((g.take k).append e).append (g.drop _)).set O,Q,?_,?_⟩,by simp only [iAt,aH];omega⟩
  ·rw [show k+1+xs.length=(k+xs.length)+1 by omega,E5 (by omega),<- cM,p,o,bA]
   congr 1
  ·rw [show k+1+xs.length=(k+xs.length)+1 by omega,D5 (by omega),x,G2,E8,F]
   simp only [aN,aF]
   rw [aI (by omega),d,aW]
   have y:val b64 (zs.take (k+xs.length))=val b64 (zs.take k)+b64^k*val b64 ((zs.drop k).take (k+xs.length-k)):=by
    rw [show k+xs.length-k=xs.length by omega,List.take_add,E8,aF,aI (by omega)]
   rw [a] at s
   rw [y] at C
   grind
 ·have u:k=ys.length:=by omega
  subst u
  rw [aV,aM (by omega)] at C
  rw [<- r]
  refine N4 w.sl g (bD _) (by omega) ?_
  intro m M D
  rw [C] at D
  exact ⟨_,_,_,rfl,hK _ _ _ _ w.le M D⟩
def Lw{x y:Int}{an bn N:Nat}(ih:B91 N)(hN:2*bn<=N)(ma:Mw h A an x)(mb:Mw h B bn y)(ha:an<=ac)(hbc:bn<=bc)(hl:an<=1000000000)(hb0:0<bn)(hba:bn<=an)(hK:∀ A' m c' h',h.le h'->m<=c'->Mw h' A' m (x*y)->K (.slice A' m c') h'):aY prog As #[.slice A an ac,.slice B bn bc] h K:=by
 have S:=mb.nonneg (by decide)
 have L:=mb.lt (by decide)
 obtain ⟨xs,rfl,sx,O,nx,rfl⟩:=ma
 refine On _ _ _ _ _ _ ?_
 unfold Ku
 have e1:B4 ((xs.length:Int)+bn)=((xs.length+bn:Nat):Int):=by rw [B5 (by omega) (by omega)];omega
 rw [e1]
 refine P2 K9 (by omega) (by omega) (by omega) ?_
 intro b hb
 rw [aC]
 refine ⟨_,_,_,rfl,?_⟩
 refine ⟨fun l M=>∃ (k:Nat) (zs:List Int) (g:bJ),l=[I k]/\k<=xs.length+bn/\h.le g/\zs.length=xs.length+bn/\Dig b64 zs/\Win .u64 M g b B7 (some ⟨b,0,none⟩) [] zs []/\val b64 zs=val b64 (xs.take k)*y,fun l _=>xs.length+bn-(iAt l 0).toNat,⟨0,_,h,rfl,by omega,B0 h,by simp,J7 (by decide) _,Win.blk .u64 B7 hb _,by rw [Cm];simp [val]⟩,?_⟩
 rintro i M ⟨k,zs,g,ag,hk,Q,ab,u,w,hv⟩
 obtain rfl:=sI1 ag
 refine B3 (fun h1=>?_) (fun h1=>?_)
 ·have e2:B4 ((k:Int)+bn)=((k+bn:Nat):Int):=by rw [B5 (by omega) (by omega)];omega
  rw [e2]
  obtain ⟨en,hen⟩:∃ en,en=min xs.length (k+bn):=⟨_,rfl⟩
  have e3:(if (xs.length:Int)<((k+bn:Nat):Int) then (xs.length:Int) else ((k+bn:Nat):Int))=(en:Int):=by split<;>omega
  rw [e3]
  simp only [aC]
  refine ⟨⟨by omega,by omega⟩,⟨by omega,by omega⟩,⟨by omega,by omega⟩,?_⟩
  have W:((xs.drop k).take (en-k)).length=en-k:=by rw [aF,aS];omega
  have sp:SlI .u64 g (J6 A ac k 1) ((xs.drop k).take (en-k)):=(sx.mono Q).cut (c:=ac) (l:=k) (m:=en) (by omega) (by omega) ha
  have dp:Dig b64 ((xs.drop k).take (en-k)):=(O.drop k).take _
  have ap:=C1 (by decide) O
  have z:∀ m,m<=en-k->Norm (((xs.drop k).take (en-k)).take m)->val b64 (((xs.drop k).take (en-k)).take m)=val b64 ((xs.drop k).take (en-k))->
   aY prog C5 #[.slice (J6 A ac k 1) m (ac-k),.slice B bn bc] M (fun r1 a=>∃ (t38A:Option bN) (t38n:Nat) (t38c:Nat),r1= .slice t38A t38n t38c/\Heap.le M a/\aY prog R6 #[.slice (J6 (some ⟨b,0,none⟩) (xs.length+bn) k 1) (xs.length+bn-k) (xs.length+bn-k),.slice t38A t38n t38c] a (fun r2 q=>r2= .tuple #[]/\(∃ (k_1:Nat) (zs:List Int) (g:bJ),[I ((k+bn:Nat):Int)]=[I k_1]/\k_1<=xs.length+bn/\h.le g/\zs.length=xs.length+bn/\Dig b64 zs/\Win .u64 q g b B7 (some ⟨b,0,none⟩) [] zs []/\val b64 zs=val b64 (xs.take k_1)*y)/\xs.length+bn-(iAt [I ((k+bn:Nat):Int)] 0).toNat<xs.length+bn-(iAt [I k] 0).toNat)):=by
   intro m hm s n
   have Mp:Mw g (J6 A ac k 1) m (val b64 ((xs.drop k).take (en-k))):=⟨((xs.drop k).take (en-k)).take m,by rw [aF];omega,Hh sp (c:=ac) (by omega) (by omega),dp.take m,s,n⟩
   refine w.call ?_
   refine ih (by omega) Mp (mb.mono Q) (by omega) hbc (by omega) (by omega) ?_
   intro A' m' c' g2 l2 ak M2 h3 w3
   refine ⟨_,_,_,rfl,?_,?_⟩
   ·rw [w.eq,w3.eq]
    intro kk o d
    by_cases J:kk=b
    ·subst J;rw [B8] at d ⊢;exact d
    ·rw [B6 _ _ J] at d ⊢;exact l2 kk o d
   obtain ⟨e,F,H,D,X,T⟩:=M2
   have V:=G4 b64 zs (i:=k) (by omega)
   have ao:=C1 (by decide) (u.take k)
   have af:xs.take en=xs.take k++(xs.drop k).take (en-k):=by
    have:=List.take_add (l:=xs) (i:=k) (j:=en-k)
    rwa [show k+(en-k)=en by omega] at this
   have ad:val b64 (xs.take en)=val b64 (xs.take k)+b64^k*val b64 ((xs.drop k).take (en-k)):=by
    rw [af,E8,aF,aI (by omega)]
   have C:val b64 zs+b64^k*val b64 e=val b64 (xs.take en)*y:=by
    rw [hv,T,ad];grind
   have al:val b64 (xs.take en)*y<b64^(xs.length+bn):=by
    have t1:=N5 (by decide) (O.take en)
    have t2:=C1 (by decide) (O.take en)
    rw [aF,aI (by omega)] at t1
    have t3:val b64 (xs.take en)*y<=b64^en*y:=aD (by omega) S
    have t4:b64^en*y<b64^en*b64^bn:=bX L (D4 (by decide) en)
    rw [<- aW] at t4
    have t5:=D3 (B:=b64) (by decide) (show en+bn<=xs.length+bn by omega)
    omega
   have E:val b64 (zs.drop k)+val b64 e<b64^(xs.length+bn-k):=by
    have e5:b64^(xs.length+bn)=b64^k*b64^(xs.length+bn-k):=by rw [<- aW];congr 1;omega
    by_cases R:val b64 (zs.drop k)+val b64 e<b64^(xs.length+bn-k)
    ·exact R
    ·have:=aG (show b64^(xs.length+bn-k)<=val b64 (zs.drop k)+val b64 e by omega) (aL (D4 (B:=b64) (by decide) k))
     rw [cI] at this
     omega
   have ai:=C1 (by decide) (u.drop k)
   have am:e.length<=xs.length+bn-k:=by
    have Mps:Mw g2 A' e.length (val b64 e):=⟨e,rfl,H,D,X,rfl⟩
    exact Mps.len_le (by decide) (by omega)
   have ws:=w3.sub (l:=k) (m:=xs.length+bn) (c:=xs.length+bn) (by omega) (by omega) (by omega)
   have aa:(zs.drop k).take (xs.length+bn-k)=zs.drop k:=aM (by rw [aS];omega)
   have G:(zs.drop k).length=xs.length+bn-k:=by rw [aS];omega
   rw [aa] at ws
   refine Fz ws G.symm H F (u.drop k) D (by omega) (by rw [G];exact E) (by omega) ?_
   intro us h5 aj Z ah w5
   have w6:=w3.whole (l:=k) (m:=xs.length+bn) (by omega) (by omega) (by omega) w5
   refine ⟨rfl,⟨k+bn,_,g2,rfl,by omega,Heap.le_trans Q l2,?_,((u.take k).append Z).append (u.drop _),w6,?_⟩,by simp only [iAt,aH];omega⟩
   ·simp only [aN,aF,aS];omega
   ·rw [aX (by omega),cC,E8,aF,aI (by omega),ah]
    have:xs.take (k+bn)=xs.take en:=by
     rw [hen]
     by_cases R:xs.length<=k+bn
     ·rw [aI R,aV,aM R]
     ·rw [dN (by omega)]
    rw [this,<- C,V];grind
  have tr:=Cj (K:=fun r p=>∃ (t36A:Option bN) (t36n:Nat) (t36c:Nat),r= .slice t36A t36n t36c/\Heap.le M p/\aY prog C5 #[.slice t36A t36n t36c,.slice B bn bc] p (fun r1 a=>∃ (t38A:Option bN) (t38n:Nat) (t38c:Nat),r1= .slice t38A t38n t38c/\Heap.le p a/\aY prog R6 #[.slice (J6 (some ⟨b,0,none⟩) (xs.length+bn) k 1) (xs.length+bn-k) (xs.length+bn-k),.slice t38A t38n t38c] a (fun r2 q=>r2= .tuple #[]/\(∃ (k_1:Nat) (zs:List Int) (g:bJ),[I ((k+bn:Nat):Int)]=[I k_1]/\k_1<=xs.length+bn/\h.le g/\zs.length=xs.length+bn/\Dig b64 zs/\Win .u64 q g b B7 (some ⟨b,0,none⟩) [] zs []/\val b64 zs=val b64 (xs.take k_1)*y)/\xs.length+bn-(iAt [I ((k+bn:Nat):Int)] 0).toNat<xs.length+bn-(iAt [I k] 0).toNat))) (ac:=ac-k) (sp.mono w.le) (by omega) (by omega) (fun m hm s n=>⟨_,_,_,rfl,B0 _,z m (by omega) s n⟩)
  rw [W] at tr
  exact tr
 ·have ae:xs.take k=xs:=aM (by omega)
  rw [ae] at hv
  rw [<- ab]
  refine N4 w.sl u (bD _) (by omega) ?_
  intro m hm hM
  rw [hv] at hM
  exact ⟨_,_,_,rfl,hK _ _ _ _ (Heap.le_trans Q w.le) hm hM⟩
def C2r{X0 X1 Y0 Y1 P:Int}(hx0:0<=X0)(hx1:0<=X1)(hy0:0<=Y0)(hy1:0<=Y1):
 X0*Y0<=(X0+X1)*(Y0+Y1)/\X1*Y1<=(X0+X1)*(Y0+Y1)-X0*Y0/\(X0+P*X1)*(Y0+P*Y1)=X0*Y0+P*((X0+X1)*(Y0+Y1)-X0*Y0-X1*Y1)+P*P*(X1*Y1):=by
 have a:=aQ hx0 hy0
 have b:=aQ hx0 hy1
 have c:=aQ hx1 hy0
 have d:=aQ hx1 hy1
 have e:(X0+X1)*(Y0+Y1)=X0*Y0+X0*Y1+X1*Y0+X1*Y1:=by grind
 refine ⟨by omega,by omega,?_⟩
 rw [e];grind
def C0h:∀ N,B91 N:=by
 intro N
 induction N with
 | zero=>
  intro h K A B ac bc an bn x y hN ma mb ha M hl u C
  have h0:=ma.len_zero (by decide)
  have hx:x=0:=h0.2 (by omega)
  subst hx
  rw [dR] at C
  refine De _ _ _ _ _ _ ?_
  unfold Ce
  refine ⟨fun l h'=>h'=h/\l=[.slice A an ac,.slice B bn bc],B3 (fun e=>absurd e (by omega)) (fun _=>⟨rfl,rfl⟩),?_⟩
  rintro A1 s c1 B1 z c2 hp ⟨rfl,hl⟩
  obtain ⟨⟨rfl,rfl,rfl⟩,rfl,rfl,rfl⟩:(A1=A/\s=an/\c1=ac)/\B1=B/\z=bn/\c2=bc:=by simpa using hl
  refine E7 (fun _=>C none 0 0 _ (B0 _) (bD _) Mag.zero) (fun e=>absurd (by omega) e)
 | succ N ih=>
  intro h K A B ac bc an bn x y hN ma mb ha M hl u C
  refine De _ _ _ _ _ _ ?_
  unfold Ce
  refine ⟨fun l h'=>h'=h/\∃ (A1 B1:Option bN) (s z c1 c2:Nat) (x1 y1:Int),l=[.slice A1 s c1,.slice B1 z c2]/\Mw h A1 s x1/\Mw h B1 z y1/\z<=s/\s<=1000000000/\s<=c1/\z<=c2/\s+z<=N+1/\x1*y1=x*y,B3 (fun h1=>?_) (fun h1=>?_),?_⟩
  ·exact ⟨rfl,_,_,_,_,_,_,y,x,rfl,mb,ma,by omega,u,M,ha,by omega,aP _ _⟩
  ·exact ⟨rfl,_,_,_,_,_,_,x,y,rfl,ma,mb,by omega,hl,ha,M,by omega,rfl⟩
  clear ma mb ha M hl u hN
  rintro A1 s c1 B1 z c2 hp ⟨rfl,A1',B1',b2,bz,b0,bk,x1,y1,aq,m1,m2,hn,a3,J,X,cf,ah⟩
  obtain ⟨⟨rfl,rfl,rfl⟩,rfl,rfl,rfl⟩:(A1=A1'/\s=b2/\c1=b0)/\B1=B1'/\z=bz/\c2=bk:=by simpa using aq
  rw [<- ah] at C
  clear aq ah
  have hz:=m2.len_zero (by decide)
  refine E7 (fun h0=>?_) (fun h0=>?_)
  ·have:y1=0:=hz.2 (by omega)
   subst this
   rw [eK] at C
   exact C none 0 0 _ (B0 _) (bD _) Mag.zero
  ·refine ⟨fun l h'=>∃ t:Bool,h'=hp/\l=[.bool t]/\(t=true->y1=1),E7 (fun h1=>?_) (fun h1=>⟨false,rfl,rfl,fun e=>by cases e⟩),?_⟩
   ·obtain ⟨g,T,sy,L,ny,bm⟩:=m2
    refine sy.load T (by omega) (by omega) ⟨_,rfl,rfl,fun e=>?_⟩
    have e1:g.getD 0 0=1:=by simpa using e
    obtain ⟨d,rfl⟩:∃ d,g=[d]:=by
     cases g with
     | nil=>simp at T;omega
     | cons d r=>
      cases r with
      | nil=>exact ⟨d,rfl⟩
      | cons _ _=>simp at T;omega
    rw [<- bm,Dk];simpa using e1
   rintro tb aa ⟨t',rfl,u,O⟩
   obtain rfl:tb=t':=by simpa using u
   refine Br.of (fun e=>?_) (fun _=>?_)
   ·rw [O e,Int.mul_one] at C
    exact C _ _ _ _ (B0 _) J m1
   clear O u
   have eL:B4 ((s:Int)+z)=((s+z:Nat):Int):=by rw [B5 (by omega) (by omega)];omega
   refine B3 (fun h2=>?_) (fun h2=>?_)
   ·obtain ⟨xs,rfl,sx,Z,nx,rfl⟩:=m1
    obtain ⟨g,rfl,sy,L,ny,rfl⟩:=m2
    rw [eL]
    refine P2 K9 (by omega) (by omega) (by omega) ?_
    intro b M
    rw [aC]
    exact ⟨_,_,_,rfl,B7j M sx Z sy L a3 (by omega) C⟩
   ·obtain ⟨H,hH⟩:∃ H,H=(s+1)/2:=⟨_,rfl⟩
    have eH:B4 (dF (B4 ((s:Int)+1)) 2)=(H:Int):=by
     rw [B5 (n:=(s:Int)+1) (by omega) (by omega),bB (by omega),B5 (by omega) (by omega)];omega
    have bw:B4 ((2:Int)*(H:Int))=((2*H:Nat):Int):=by rw [B5 (by omega) (by omega)];omega
    simp only [eH,eL,bw,aC]
    refine B3 (fun h3=>?_) (fun h3=>?_)
    ·refine Lw ih (by omega) m1 m2 J X a3 (by omega) (by omega) ?_
     intro A' m c' h' l' k' M'
     exact ⟨_,_,_,rfl,C _ _ _ _ l' k' M'⟩
    ·have b3:=m1.nonneg (by decide)
     have a1:=m1.lt (by decide)
     have a7:=m2.lt (by decide)
     have bi:=m2.nonneg (by decide)
     obtain ⟨xs,rfl,sx,Z,nx,rfl⟩:=m1
     obtain ⟨g,rfl,sy,L,ny,rfl⟩:=m2
     have bq:H<xs.length:=by omega
     have bh:H<g.length:=by omega
     have ar:=C1 (by decide) (Z.take H)
     have a2:=C1 (by decide) (Z.drop H)
     have a6:=C1 (by decide) (L.take H)
     have a4:=C1 (by decide) (L.drop H)
     have bd:=G4 b64 xs (i:=H) (by omega)
     have bu:=G4 b64 g (i:=H) (by omega)
     have ay:=N5 (by decide) (Z.take H)
     have ak:=N5 (by decide) (L.take H)
     rw [aF,aI (by omega)] at ay ak
     have D:Mw aa (J6 A1 c1 H 1) (xs.length-H) (val b64 (xs.drop H)):=by
      have:=Mw.of (Xn sx (c:=c1) (l:=H) (by omega) J) (Z.drop H) (Jw nx bq)
      rwa [aS] at this
     have w:Mw aa (J6 B1 c2 H 1) (g.length-H) (val b64 (g.drop H)):=by
      have:=Mw.of (Xn sy (c:=c2) (l:=H) (by omega) X) (L.drop H) (Jw ny bh)
      rwa [aS] at this
     obtain ⟨ka,kb,kc⟩:=C2r (P:=b64^H) ar a2 a6 a4
     rw [<- bd,<- bu] at kc
     generalize hX0:val b64 (xs.take H)=X0 at *
     generalize hX1:val b64 (xs.drop H)=X1 at *
     generalize hY0:val b64 (g.take H)=Y0 at *
     generalize hY1:val b64 (g.drop H)=Y1 at *
     rw [L3,L3,bV,bV,bV]
     refine ⟨⟨by omega,by omega⟩,⟨by omega,by omega⟩,?_⟩
     refine Z4 (Hh sx (c:=c1) (m:=H) (by omega) J) (Z.take H) (by rw [aF];omega) hX0 (by omega) (by omega) ?_
     intro mx co MX0
     refine ⟨_,_,_,rfl,B0 _,⟨by omega,by omega⟩,⟨by omega,by omega⟩,?_⟩
     refine Z4 (Hh sy (c:=c2) (m:=H) (by omega) X) (L.take H) (by rw [aF];omega) hY0 (by omega) (by omega) ?_
     intro my cg MY0
     refine ⟨_,_,_,rfl,B0 _,?_⟩
     refine ih (by omega) MX0 MY0 (by omega) (by omega) (by omega) (by omega) ?_
     intro A3 n3 c3 g3 l3 k3 M3
     refine ⟨_,_,_,rfl,?_⟩
     refine ih (by omega) (D.mono l3) (w.mono l3) (by omega) (by omega) (by omega) (by omega) ?_
     intro A4 n4 c4 g4 l4 k4 M4
     refine ⟨_,_,_,rfl,?_⟩
     have G:=Heap.le_trans l3 l4
     refine P3 (MX0.mono G) (D.mono G) (by omega) (by omega) (by omega) (by omega) ?_
     intro A5 n5 c5 g5 l5 k5 M5
     refine ⟨_,_,_,rfl,?_⟩
     have aw:=Heap.le_trans G l5
     refine P3 (MY0.mono aw) (w.mono aw) (by omega) (by omega) (by omega) (by omega) ?_
     intro A6 n6 c6 g6 l6 k6 M6
     refine ⟨_,_,_,rfl,?_⟩
     have az:=D.lt (by decide)
     have ae:=w.lt (by decide)
     have bx:=D4 (B:=b64) (by decide) H
     have b8:b64^(H+1)=b64^H*18446744073709551616:=aZ _ _
     have b6:n5<=H+1:=by
      refine M5.len_le (by decide) ?_
      have:=D3 (B:=b64) (by decide) (show xs.length-H<=H by omega)
      omega
     have cd:n6<=H+1:=by
      refine M6.len_le (by decide) ?_
      have:=D3 (B:=b64) (by decide) (show g.length-H<=H by omega)
      omega
     refine ih (by omega) (M5.mono l6) M6 k5 k6 (by omega) (by omega) ?_
     intro A7 n7 c7 g7 l7 k7 M7
     refine ⟨_,_,_,rfl,?_⟩
     have R:=Heap.le_trans (Heap.le_trans l5 l6) l7
     have k:∀ {p q:Int} {i j:Nat},0<=p->p<b64^i->0<=q->q<b64^j->p*q<b64^(i+j):=by
      intro p q i j a b c d
      rw [aW]
      have t1:p*q<=b64^i*q:=aD (by omega) c
      have t2:b64^i*q<b64^i*b64^j:=bX d (D4 (by decide) i)
      omega
     have cb:n7<=n5+n6:=M7.len_le (by decide) (k (M5.nonneg (by decide)) (M5.lt (by decide)) (M6.nonneg (by decide)) (M6.lt (by decide)))
     refine F4 M7 (M3.mono (Heap.le_trans l4 R)) k7 (by omega) ka ?_
     intro A8 n8 c8 g8 l8 k8 M8
     refine ⟨_,_,_,rfl,?_⟩
     have cc:n8<=n7:=M8.len_le (by decide) (by have:=M7.lt (by decide);have:=M3.nonneg (by decide);omega)
     refine F4 M8 (M4.mono (Heap.le_trans R l8)) k8 (by omega) kb ?_
     intro A9 n9 c9 g9 l9 k9 M9
     refine ⟨_,_,_,rfl,?_⟩
     have ab:=Heap.le_trans R (Heap.le_trans l8 l9)
     have aj:aa.le g9:=Heap.le_trans G ab
     refine P2 K9 (by omega) (by omega) (by omega) ?_
     intro b M
     rw [aC]
     refine ⟨_,_,_,rfl,?_⟩
     have w0:=Win.blk .u64 B7 M (aE (xs.length+g.length) 0)
     have b9:n3<=H+H:=M3.len_le (by decide) (k ar ay a6 ak)
     have ca:n4<=(xs.length-H)+(g.length-H):=M4.len_le (by decide) (k a2 az a4 ae)
     obtain ⟨o,au,be,bt,cp,am⟩:=M3.mono (Heap.le_trans l4 ab)
     obtain ⟨hi,a5,ba,b1,ci,ap⟩:=M4.mono ab
     obtain ⟨Q,al,ad,ag,bv,ai⟩:=M9
     refine Ay K9 w0 (by simp) (be.mono w0.le) au (by simp;omega) ?_
     intro ch W
     refine ⟨_,rfl,⟨by omega,by omega⟩,?_⟩
     have a8:o++(aE (xs.length+g.length) (0:Int)).drop o.length=o++aE (xs.length+g.length-o.length) 0:=by rw [bA]
     rw [a8] at W
     have S:=W.sub (l:=2*H) (m:=xs.length+g.length) (c:=xs.length+g.length) (by omega) (by simp;omega) (by simp;omega)
     have b4:((o++aE (xs.length+g.length-o.length) (0:Int)).drop (2*H)).take (xs.length+g.length-2*H)=aE (xs.length+g.length-2*H) 0:=by
      rw [eR,aX (by omega),cA,bA,cF]
      congr 1;omega
     rw [b4] at S
     refine Ay K9 S (by simp) (ba.mono S.le) a5 (by simp;omega) ?_
     intro cq ax
     refine ⟨_,rfl,⟨by omega,by omega⟩,?_⟩
     rw [bA] at ax
     have F:=W.whole (l:=2*H) (m:=xs.length+g.length) (by omega) (by simp;omega) (by simp;omega) ax
     have bo:(o++aE (xs.length+g.length-o.length) (0:Int)).take (2*H)=o++aE (2*H-o.length) 0:=by
      rw [List.take_append,aM (by omega),cF]
      congr 2;omega
     have a9:(o++aE (xs.length+g.length-o.length) (0:Int)).drop (xs.length+g.length)=[]:=by
      apply aX;simp;omega
     rw [bo,a9,cC] at F
     generalize hzs:o++aE (2*H-o.length) (0:Int)++(hi++aE (xs.length+g.length-2*H-hi.length) 0)=zs at F
     have cj:zs.length=xs.length+g.length:=by
      rw [<- hzs];simp;omega
     have E:Dig b64 zs:=by
      rw [<- hzs]
      exact (bt.append (J7 (by decide) _)).append (b1.append (J7 (by decide) _))
     have bf:val b64 zs=X0*Y0+b64^H*b64^H*(X1*Y1):=by
      rw [<- hzs,E8,Bf,Bf,am,ap]
      have:(o++aE (2*H-o.length) (0:Int)).length=H+H:=by simp;omega
      rw [this,aW]
     have ao:=F.sub (l:=H) (m:=xs.length+g.length) (c:=xs.length+g.length) (by omega) (by omega) (by omega)
     have bp:(zs.drop H).take (xs.length+g.length-H)=zs.drop H:=aM (by rw [aS];omega)
     have af:(zs.drop H).length=xs.length+g.length-H:=by rw [aS];omega
     rw [bp] at ao
     have bj:=G4 b64 zs (i:=H) (by omega)
     have ck:=C1 (by decide) (E.take H)
     have b7:=C1 (by decide) (E.drop H)
     have ce:val b64 xs*val b64 g<b64^(xs.length+g.length):=k b3 a1 bi a7
     have a0:val b64 zs+b64^H*val b64 Q=val b64 xs*val b64 g:=by rw [kc,bf,ai];grind
     have av:val b64 (zs.drop H)+val b64 Q<b64^(xs.length+g.length-H):=by
      have e5:b64^(xs.length+g.length)=b64^H*b64^(xs.length+g.length-H):=by rw [<- aW];congr 1;omega
      by_cases hc:val b64 (zs.drop H)+val b64 Q<b64^(xs.length+g.length-H)
      ·exact hc
      ·have:=aG (show b64^(xs.length+g.length-H)<=val b64 (zs.drop H)+val b64 Q by omega) (aL bx)
       rw [cI] at this
       omega
     have cl:Q.length<=xs.length+g.length-H:=by
      have Mmi:Mw g9 A9 Q.length (val b64 Q):=⟨Q,rfl,ad,ag,bv,rfl⟩
      exact Mmi.len_le (by decide) (by omega)
     refine Fz ao af.symm ad al (E.drop H) ag (by omega) (by rw [af];exact av) (by omega) ?_
     intro us cm cn bl bg bb
     refine ⟨rfl,?_⟩
     have V:=F.whole (l:=H) (m:=xs.length+g.length) (by omega) (by omega) (by omega) bb
     rw [aX (show zs.length<=xs.length+g.length by omega),cC] at V
     have br:(zs.take H++us).length=xs.length+g.length:=by
      simp only [aN,aF];omega
     rw [<- br]
     refine N4 V.sl ((E.take H).append bl) (by omega) (by omega) ?_
     intro m hm hM
     have b5:val b64 (zs.take H++us)=val b64 xs*val b64 g:=by
      rw [E8,aF,aI (by omega),bg,<- a0,bj];grind
     rw [b5] at hM
     exact ⟨_,_,_,rfl,C _ _ _ _ (Heap.le_trans aj V.le) hm hM⟩
def D9{x y:Int}{an bn:Nat}(ma:Mw h A an x)(mb:Mw h B bn y)(ha:an<=ac)(hb:bn<=bc)(hl:an<=1000000000)(hl2:bn<=1000000000)(hK:∀ A' m c' h',h.le h'->m<=c'->Mw h' A' m (x*y)->K (.slice A' m c') h'):aY prog C5 #[.slice A an ac,.slice B bn bc] h K:=
 C0h _ (bD _) ma mb ha hb hl hl2 hK
end
section
variable {h g:bJ} {K:VP} {A B:Option bN} {ac bc:Nat}
def A8k{hi lo y:Int}(hhi:0<=hi/\hi<y)(hlo:0<=lo/\lo<18446744073709551616)(hy:y<18446744073709551616)
 (hK:K (.tuple #[U ((hi*18446744073709551616+lo)/y),U ((hi*18446744073709551616+lo)%y)]) h):aY prog Ee #[U hi,U lo,U y] h K:=by
 obtain ⟨n,rfl⟩:∃ n:Nat,y=n:=⟨y.toNat,by omega⟩
 exact Pk hhi hlo (by omega) hK
def Rg{x:Int}{an w:Nat}(ma:Mw h A an x)(hw:0<w/\w<18446744073709551616)(hl:an<=1000000000)(hK:∀ A' m c' h',h.le h'->m<=c'->m<=an->Mw h' A' m (x/w)->K (.tuple #[.slice A' m c',U (x%w)]) h'):aY prog Dw #[.slice A an ac,U w] h K:=by
 obtain ⟨xs,rfl,G,B,J,rfl⟩:=ma
 refine Tf _ _ _ _ ?_
 unfold Rz
 refine P2 K9 (by omega) (by omega) (by omega) ?_
 intro b s
 rw [aC]
 refine ⟨_,_,_,rfl,?_⟩
 refine ⟨fun l h'=>∃ (k:Nat) (r:Int) (zs:List Int),l=[U r,I ((k:Int)-1)]/\k<=xs.length/\zs.length=xs.length/\Dig b64 zs/\(0<=r/\r<w)/\h'=blk .u64 B7 h b zs/\val b64 (xs.drop k)=val b64 (zs.drop k)*w+r,fun l _=>(iAt l 1+1).toNat,⟨xs.length,0,_,by rw [B5 (by omega) (by omega)],by omega,by simp,J7 (by decide) _,by omega,rfl,by simp [val]⟩,?_⟩
 rintro r i L ⟨k,z,zs,q,H,a,u,c,rfl,d⟩
 obtain ⟨rfl,rfl⟩:r=z/\i=(k:Int)-1:=by simpa using q
 have p:=Kp (k:=.u64) (e:=B7) s zs
 refine B3 (fun C=>?_) (fun C=>?_)
 ·obtain ⟨j,rfl⟩:∃ j,k=j+1:=⟨k-1,by omega⟩
  have e:((j+1:Nat):Int)-1=(j:Int):=by omega
  rw [e]
  have F:=J5 B j
  refine (G.mono p).load rfl (by omega) (by omega) ?_
  rw [aC]
  refine Pk c F hw.2 ⟨_,_,rfl,?_⟩
  have E:0<=r*18446744073709551616+xs.getD j 0:=by omega
  have g:0<=(r*18446744073709551616+xs.getD j 0)/w/\(r*18446744073709551616+xs.getD j 0)/w<18446744073709551616:=by
   constructor
   ·exact bM E (by omega)
   ·apply bC (by omega)
    have:(r+1)*18446744073709551616<=(w:Int)*18446744073709551616:=aD (by omega) (by decide)
    omega
  refine ⟨_,rfl,by omega,by omega,?_⟩
  refine Da (zs:=zs) (i:=j) E2 (by omega) ?_
  rw [B5 (by omega) (by omega)]
  refine ⟨⟨j,_,zs.set j ((r*18446744073709551616+xs.getD j 0)/w),rfl,by omega,by simpa using a,u.set g,⟨aR _ (by omega),aJ _ (by omega)⟩,rfl,?_⟩,by simp only [iAt,aH,aO];omega⟩
  rw [Ef (by omega),Pa b64 (by omega),d]
  have:=aK (r*18446744073709551616+xs.getD j 0) w
  simp only [val]
  grind
 ·have o:k=0:=by omega
  subst o
  rw [fB,fB] at d
  rw [<- a]
  refine N4 (Rn _ _ _ _ _) u (bD _) (by omega) ?_
  intro m D y
  have g:val b64 xs/w=val b64 zs:=by
   rw [d,dU,dT _ _ (by omega),bK c.1 c.2,cO]
  have n:val b64 xs%w=r:=by
   rw [d,dU,eZ,eO c.1 c.2]
  rw [<- g] at y
  rw [<- n]
  exact ⟨_,_,_,rfl,hK _ _ _ _ (Kp s _) D (by omega) y⟩
def Jr{x:Int}{an w:Nat}(ma:Mw h A an x)(hw:0<w/\w<18446744073709551616)(hl:an<=1000000000)(hK:K (U (x%w)) h):aY prog X8 #[.slice A an ac,U w] h K:=by
 obtain ⟨xs,rfl,p,o,y,rfl⟩:=ma
 refine My _ _ _ _ ?_
 unfold Hz
 refine ⟨fun l n=>∃ (k:Nat) (r:Int) (Q:Int),l=[U r,I ((k:Int)-1)]/\k<=xs.length/\(0<=r/\r<w)/\n=h/\val b64 (xs.drop k)=Q*w+r,fun l _=>(iAt l 1+1).toNat,⟨xs.length,0,0,by rw [B5 (by omega) (by omega)],by omega,by omega,rfl,by simp [val]⟩,?_⟩
 rintro r i z ⟨k,m,Q,a,u,b,rfl,d⟩
 obtain ⟨rfl,rfl⟩:r=m/\i=(k:Int)-1:=by simpa using a
 refine B3 (fun s=>?_) (fun s=>?_)
 ·obtain ⟨j,rfl⟩:∃ j,k=j+1:=⟨k-1,by omega⟩
  have e:((j+1:Nat):Int)-1=(j:Int):=by omega
  rw [e]
  have q:=J5 o j
  refine p.load rfl (by omega) (by omega) ?_
  rw [aC]
  refine Pk b q hw.2 ⟨_,_,rfl,?_⟩
  rw [B5 (by omega) (by omega)]
  refine ⟨⟨j,_,b64*Q+(r*18446744073709551616+xs.getD j 0)/w,rfl,by omega,⟨aR _ (by omega),aJ _ (by omega)⟩,rfl,?_⟩,by simp only [iAt,aH,aO];omega⟩
  rw [Pa b64 (by omega),d]
  have:=aK (r*18446744073709551616+xs.getD j 0) w
  show _+(18446744073709551616:Int)*_=((18446744073709551616:Int)*_+_)*_+_
  grind
 ·have g:k=0:=by omega
  subst g
  rw [fB] at d
  have c:val b64 xs%w=r:=by
   rw [d,dU,eZ,eO b.1 b.2]
  rw [c] at hK;exact hK
def Xk{us vs:List Int}{m wn dn:Nat}{X Y:Int}(su:SlI .u64 h A us)(sv:SlI .u64 h B vs)(hwn:wn=us.length)(hdn:dn=vs.length)(du:Dig b64 us)(dv:Dig b64 vs)(hu:us.length=m+3)(hv:vs.length=m+2)(hl:m<=10000000000)(h1:b64<=2*vs.getD (m+1) 0)(hX:val b64 us=X)(hY:val b64 vs=Y)(hlt:X<Y*b64)
 (hK:∀ q,0<=q->q<18446744073709551616->X<(q+1)*Y->(q-1)*Y<=X->K (U q) h):aY prog Iq #[.slice A wn ac,.slice B dn bc] h K:=by
 subst hwn hdn
 have b:=B8h (B:=b64) (by decide) du dv hu hv h1 (by rw [hX,hY];exact hlt)
 rw [hX,hY] at b
 have gu:=J5 du (m+2)
 have k:=J5 du (m+1)
 have gv:=J5 dv (m+1)
 have s:=b.v1r
 have a:=b.v2r
 have aa:=b.u2r
 have V:=b.V0
 have R:=b.U0
 refine A0o _ _ _ _ _ _ ?_
 unfold A0p
 have e1:B4 ((vs.length:Int)-1)=((m+1:Nat):Int):=by rw [B5 (by omega) (by omega)];omega
 have Q:B4 ((vs.length:Int)-2)=(m:Int):=by rw [B5 (by omega) (by omega)];omega
 have e3:((vs.length:Nat):Int)=((m+2:Nat):Int):=by omega
 rw [e1,Q,e3]
 refine sv.load (by omega) (by omega) (by omega) ?_
 refine sv.load (by omega) (by omega) (by omega) ?_
 refine su.load rfl (by omega) (by omega) ?_
 simp only [aC]
 refine B3 (fun J=>?_) (fun J=>?_)
 ·have L:=b.top (by
   have:vs.getD (m+1) 0*b64<=us.getD (m+2) 0*b64:=aD J (by decide)
   omega)
  exact hK 18446744073709551615 (by omega) (by omega) L.2 L.1
 ·refine su.load rfl (by omega) (by omega) ?_
  refine su.load rfl (by omega) (by omega) ?_
  simp only [aC]
  refine A8k (by omega) k gv.2 ⟨_,_,rfl,B0 h,?_⟩
  generalize hT:us.getD (m+2) 0*b64+us.getD (m+1) 0=T at b
  have W:us.getD (m+2) 0*18446744073709551616+us.getD (m+1) 0=T:=hT
  have x:0<=T:=b.top0
  have z:=b.init
  have H:=aK T (vs.getD (m+1) 0)
  have ab:=aR T (show vs.getD (m+1) 0≠0 by omega)
  have N:=aJ T (show 0<vs.getD (m+1) 0 by omega)
  have y:0<=T/vs.getD (m+1) 0:=bM x (by omega)
  have o:T/vs.getD (m+1) 0<18446744073709551616:=by
   apply bC (by omega)
   have:(us.getD (m+2) 0+1)*18446744073709551616<=vs.getD (m+1) 0*18446744073709551616:=aD (by omega) (by decide)
   have:=k.2
   have:18446744073709551616*vs.getD (m+1) 0=vs.getD (m+1) 0*18446744073709551616:=aP _ _
   omega
  refine ⟨fun l h'=>∃ q r:Int,l=[U q,U r]/\h'=h/\(0<=q/\q<18446744073709551616)/\(0<=r/\r<18446744073709551616)/\q*vs.getD (m+1) 0+r=T/\X<(q+1)*Y,fun l _=>(iAt l 0).toNat,⟨_,_,rfl,rfl,⟨y,o⟩,by omega,by rw [aP];exact H,z⟩,?_⟩
  rintro q r w ⟨M,O,D,rfl,i,hr,C,j⟩
  obtain ⟨rfl,rfl⟩:q=M/\r=O:=by simpa using D
  have hm:0<=q*vs.getD m 0/\q*vs.getD m 0<=18446744073709551615*18446744073709551615:=⟨aQ i.1 a.1,dH (by omega) (by have:=(J5 dv m).2;omega) a.1 (by decide)⟩
  have key:q*(vs.getD (m+1) 0*b64+vs.getD m 0)=(T-r)*18446744073709551616+q*vs.getD m 0:=by
   rw [<- C];show q*(vs.getD (m+1) 0*(18446744073709551616:Int)+vs.getD m 0)=_;grind
  have g:q*vs.getD m 0<=r*18446744073709551616+us.getD m 0->K (U q) w:=by
   intro Z
   refine hK q i.1 i.2 j (b.up (by show q<=(18446744073709551616:Int);omega) ?_)
   rw [key];show _<=T*(18446744073709551616:Int)+_;omega
  have c:¬ (q*vs.getD m 0<=r*18446744073709551616+us.getD m 0)->Br (decide (C0 (r+vs.getD (m+1) 0)<vs.getD (m+1) 0)) (K (U (C0 (q-1))) w) ((∃ q_1 r_1:Int,[U (C0 (q-1)),U (C0 (r+vs.getD (m+1) 0))]=[U q_1,U r_1]/\w=w/\(0<=q_1/\q_1<18446744073709551616)/\(0<=r_1/\r_1<18446744073709551616)/\q_1*vs.getD (m+1) 0+r_1=T/\X<(q_1+1)*Y)/\(iAt [U (C0 (q-1)),U (C0 (r+vs.getD (m+1) 0))] 0).toNat<(iAt [U q,U r] 0).toNat):=by
   intro hf
   have G:X<q*Y:=b.low i.1 (by rw [key];show T*(18446744073709551616:Int)+_<_;omega)
   have o:1<=q:=by
    by_cases F:1<=q
    ·exact F
    ·have:q=0:=by omega
     subst this;omega
   have d:X<(q-1+1)*Y:=by rw [Int.sub_add_cancel];exact G
   have e:(q-1)*vs.getD (m+1) 0+(r+vs.getD (m+1) 0)=T:=by grind
   rw [C2 (n:=q-1) (by omega) (by omega)]
   refine B3 (fun p=>?_) (fun p=>?_)
   ·rw [F3] at p
    have hb:(q-1)*vs.getD m 0<=18446744073709551616*vs.getD m 0:=aD (by omega) a.1
    have u:(q-1)*(vs.getD (m+1) 0*b64+vs.getD m 0)=(T-(r+vs.getD (m+1) 0))*18446744073709551616+(q-1)*vs.getD m 0:=by
     rw [<- e];show (q-1)*(vs.getD (m+1) 0*(18446744073709551616:Int)+vs.getD m 0)=_;grind
    refine hK (q-1) (by omega) (by omega) d (b.up (by show q-1<=(18446744073709551616:Int);omega) ?_)
    rw [u]
    have:=a.2
    show _<=T*(18446744073709551616:Int)+_
    have:vs.getD m 0<18446744073709551616:=a.2
    omega
   ·have E:r+vs.getD (m+1) 0<18446744073709551616:=by
     by_cases F:r+vs.getD (m+1) 0<18446744073709551616
     ·exact F
     ·rw [F3] at p;have:=s.2;have:vs.getD (m+1) 0<18446744073709551616:=s.2;omega
    rw [C2 (n:=r+vs.getD (m+1) 0) (by omega) E]
    exact ⟨⟨q-1,r+vs.getD (m+1) 0,rfl,rfl,by omega,by omega,e,d⟩,by simp only [iAt,aH];omega⟩
  refine Jx i (by have:=a.2;exact ⟨a.1,this⟩) ⟨_,_,rfl,?_⟩
  have S:0<=us.getD m 0/\us.getD m 0<18446744073709551616:=J5 du m
  refine B3 (fun p=>g (by omega)) (fun p=>?_)
  refine E7 (fun h4=>?_) (fun h4=>c (by omega))
  refine su.load rfl (by omega) (by omega) ?_
  rw [aC]
  exact B3 (fun h5=>g (by omega)) (fun h5=>c (by omega))
end
section
variable {h g:bJ} {K:VP} {bu bq:Nat} {pre qs:List Int} {VA:Option bN} {vs:List Int}
def B8p{n N:Nat}{ws:List Int}{q:Int}{J:LP}(hu:g bu=none)(hq:g bq=none)(hne:bu≠bq)(sv:SlI .u64 g VA vs)(dv:Dig b64 vs)(hn:n=vs.length)(dw:Dig b64 ws)(hN:N=(pre++ws).length)(hl:n<ws.length)(hbig:N<=4000000000)
 (hD:val b64 (ws.take n)+val b64 vs<2*b64^n) (hD0:b64^n<=val b64 (ws.take n)+val b64 vs) (htop:ws.getD n 0=18446744073709551615)
 (hJ:∀ ws',ws'.length=ws.length->Dig b64 ws'->ws'.drop (n+1)=ws.drop (n+1)->ws'.getD n 0=0->val b64 (ws'.take n)=val b64 (ws.take n)+val b64 vs-b64^n->J [U (C0 (q-1))] (Kq .u64 B7 g bu (pre++ws') bq qs)):
 Y3 prog n VA n (some ⟨bu,0,none⟩) N (pre.length:Int) q J (Kq .u64 B7 g bu (pre++ws) bq qs):=by
 unfold Y3
 refine ⟨fun l S=>∃ (k:Nat) (c:Int) (zs:List Int),l=[U c,I k]/\k<=n/\zs.length=ws.length/\Dig b64 zs/\(0<=c/\c<=1)/\S=Kq .u64 B7 g bu (pre++zs) bq qs/\zs.drop k=ws.drop k/\val b64 (zs.take k)+c*b64^k=val b64 (ws.take k)+val b64 (vs.take k),fun l _=>n-(iAt l 1).toNat,⟨0,0,ws,rfl,by omega,rfl,dw,by omega,rfl,rfl,by simp [val]⟩,?_⟩
 rintro c i X ⟨k,G,zs,C,W,d,o,R,rfl,a,T⟩
 obtain ⟨rfl,rfl⟩:c=G/\i=(k:Int):=by simpa using C
 have A:g.le (Kq .u64 B7 g bu (pre++zs) bq qs):=A8x hu hq hne
 have D:SlI .u64 (Kq .u64 B7 g bu (pre++zs) bq qs) (some ⟨bu,0,none⟩) (pre++zs):=A8w hne
 have b:N=(pre++zs).length:=by rw [hN,aN,aN,d]
 have M:N=pre.length+zs.length:=by rw [b,aN]
 have y:B4 ((pre.length:Int)+k)=((k+pre.length:Nat):Int):=by rw [B5 (by omega) (by omega)];omega
 have B:B4 ((pre.length:Int)+n)=((n+pre.length:Nat):Int):=by rw [B5 (by omega) (by omega)];omega
 refine B3 (fun L=>?_) (fun L=>?_)
 ·have Q:=J5 dv k
  have F:=J5 o k
  have j:=G6 a
  have H:=C6 b64 vs k
  have O:=C6 b64 ws k
  rw [y]
  refine (sv.mono A).load hn (by omega) (by omega) ?_
  refine D.load b (by omega) (by omega) ?_
  simp only [aC,Wu]
  refine Bv F Q R ⟨_,_,rfl,?_⟩
  refine ⟨_,rfl,by omega,by omega,?_⟩
  have r:=Ix (P:=prog) (t:=B7) (k:=.u64) (e:=B7) (g:=g) (bu:=bu) (bq:=bq) (us:=pre++zs) (qs:=qs) (i:=((k+pre.length:Nat):Int)) (n:=(zs.getD k 0+vs.getD k 0+c)%18446744073709551616) E2 hne (by rw [aC];omega)
   (K:=fun _ p=>(∃ (k_1:Nat) (c_1:Int) (zs_1:List Int),[U ((zs.getD k 0+vs.getD k 0+c)/18446744073709551616),I (B4 ((k:Int)+1))]=[U c_1,I k_1]/\k_1<=n/\zs_1.length=ws.length/\Dig b64 zs_1/\(0<=c_1/\c_1<=1)/\p=Kq .u64 B7 g bu (pre++zs_1) bq qs/\zs_1.drop k_1=ws.drop k_1/\val b64 (zs_1.take k_1)+c_1*b64^k_1=val b64 (ws.take k_1)+val b64 (vs.take k_1))/\n-(iAt [U ((zs.getD k 0+vs.getD k 0+c)/18446744073709551616),I (B4 ((k:Int)+1))] 1).toNat<n-(iAt [U c,I k] 1).toNat)
  rw [aC] at r
  refine r ?_
  rw [A1n,B5 (n:=(k:Int)+1) (by omega) (by omega)]
  refine ⟨⟨k+1,_,zs.set k ((zs.getD k 0+vs.getD k 0+c)%18446744073709551616),rfl,by omega,by simpa using d,o.set (Cs _),by omega,rfl,?_,?_⟩,by simp only [iAt,aH,aO];omega⟩
  ·rw [E5 (by omega)];exact F1 a
  ·rw [D5 (by omega),G2,aF,aI (by omega),aZ,Ms,H,O,<- j]
   grind
 ·have u:k=n:=by omega
  subst u
  have j:=G6 a
  rw [B]
  refine D.load b (by omega) (by omega) ?_
  rw [aC,Wu,j,htop]
  refine ⟨_,rfl,by omega,by omega,?_⟩
  have z:vs.take k=vs:=by rw [hn,aV]
  rw [z] at T
  have x:=N5 (by decide) (o.take k)
  rw [aF,aI (by omega)] at x
  have V:=C1 (by decide) (o.take k)
  have s:c=1:=by
   by_cases w:c=0
   ·subst w;omega
   ·omega
  subst s
  have E:C0 (18446744073709551615+1)=0:=by rw [F3];omega
  rw [E]
  have r:=Ix (P:=prog) (t:=B7) (k:=.u64) (e:=B7) (g:=g) (bu:=bu) (bq:=bq) (us:=pre++zs) (qs:=qs) (i:=((k+pre.length:Nat):Int)) (n:=0) E2 hne (by rw [aC];omega) (K:=fun _ m=>J [U (C0 (q-1))] m)
  rw [aC] at r
  refine r ?_
  rw [A1n]
  refine hJ (zs.set k 0) (by simpa using d) (o.set (by decide)) (by rw [E5 (by omega)];exact F1 a) (by simp [cK,show k<zs.length by omega]) ?_
  rw [List.take_set_of_le (by omega)]
  omega
end
def B0n{g h':bJ}{e:cH}{bu bq:Nat}{A:Option bN}{us qs:List Int}(hne:bu≠bq)(w:Win .u64 h' (blk .u64 e g bq qs) bu e A [] us []):h'=Kq .u64 e g bu us bq qs:=by
 rw [Fw hne,w.eq]
 simp [blk]
def B2a{g:bJ}{e:cH}{bu bq:Nat}{us qs:List Int}(hu:g bu=none)(hne:bu≠bq):Win .u64 (Kq .u64 e g bu us bq qs) (blk .u64 e g bq qs) bu e (some ⟨bu,0,none⟩) [] us []:=by
 rw [Fw hne]
 refine Win.blk .u64 e ?_ us
 unfold blk;rw [B6 _ _ hne];exact hu
def A0b{P:dE}{t:cH}{k:cV}{e:cH}{g:bJ}{bu bq:Nat}{us qs:List Int}(one:P.cellsOf t=1/\(P.info? t).isSome=true)(hne:bu≠bq){n:Int}{i:Nat}(hi:i<us.length){K:Unit->bJ->Prop}
 (x:K () (Kq k e g bu (us.set i n) bq qs)):wpH P (dL t (.pointer (some (eD ⟨bu,0,none⟩ (i*1)))) (.int k n)) K (Kq k e g bu us bq qs):=by
 have:=Ix (P:=P) (t:=t) (k:=k) (e:=e) (g:=g) (bu:=bu) (bq:=bq) (us:=us) (qs:=qs) (i:=(i:Int)) (n:=n) (K:=K) one hne (by simpa using hi) (by simpa using x)
 simpa using this
def A0c{P:dE}{t:cH}{k:cV}{e:cH}{g:bJ}{bu bq:Nat}{us qs:List Int}(one:P.cellsOf t=1/\(P.info? t).isSome=true){n:Int}{i:Nat}(hi:i<qs.length){K:Unit->bJ->Prop}
 (x:K () (Kq k e g bu us bq (qs.set i n))):wpH P (dL t (.pointer (some (eD ⟨bq,0,none⟩ (i*1)))) (.int k n)) K (Kq k e g bu us bq qs):=by
 have:=A2n (P:=P) (t:=t) (k:=k) (e:=e) (g:=g) (bu:=bu) (bq:=bq) (us:=us) (qs:=qs) (i:=(i:Int)) (n:=n) (K:=K) one (by simpa using hi) (by simpa using x)
 simpa using this
section
variable {h g:bJ} {K:VP} {bu bq:Nat} {VA:Option bN} {vs us0:List Int}
set_option maxHeartbeats 1000000 in
def A1m{s mm N nq vc xn:Nat}{a b Y:Int}(hu:g bu=none)(hq:g bq=none)(hne:bu≠bq)(sv:SlI .u64 g VA vs)(dv:Dig b64 vs)(hn:vs.length=mm+2)(hv1:b64<=2*vs.getD (mm+1) 0)(hs:s<64)(hY:val b64 vs=Y)(hYb:Y=b*2^s)(du:Dig b64 us0)(hN:us0.length=N)(hua:val b64 us0=a*2^s)(hxn:N=xn+1)(hnq:N=nq+(mm+2))(hnq1:1<=nq)(hbig:N<=1000000001)(htop:val b64 (us0.drop nq)<Y)
 (hK:∀ A1 m1 c1 A2 m2 c2 h',g.le h'->m1<=c1->m2<=c2->Mw h' A1 m1 (a/b)->Mw h' A2 m2 (a%b)->K (.tuple #[.slice A1 m1 c1,.slice A2 m2 c2]) h'):
 Y4 prog xn (mm+2) K (s:Int) VA (mm+2) vc (some ⟨bu,0,none⟩) N N (some ⟨bq,0,none⟩) nq nq (Kq .u64 B7 g bu us0 bq (aE nq 0)):=by
 have hp:0<(2:Int)^s:=bG (by decide)
 have a7:Y<b64^(mm+2):=by rw [<- hY,<- hn];exact N5 (by decide) dv
 have a8:0<Y:=by have:=C1 (by decide) (du.drop nq);omega
 have e0:B4 ((xn:Int)-((mm+2:Nat):Int))=(nq:Int)-1:=by rw [B5 (by omega) (by omega)];omega
 unfold Y4
 refine ⟨fun l h'=>∃ (k:Nat) (us qs:List Int),l=[I ((k:Int)-1)]/\k<=nq/\us.length=N/\qs.length=nq/\Dig b64 us/\Dig b64 qs/\h'=Kq .u64 B7 g bu us bq qs/\val b64 (us.drop k)<Y/\val b64 us0=val b64 (qs.drop k)*Y*b64^k+val b64 us,fun l _=>(iAt l 0+1).toNat,⟨nq,us0,_,by rw [e0],by omega,hN,by simp,du,J7 (by decide) _,rfl,htop,by simp [val]⟩,?_⟩
 rintro j a6 ⟨k,us,qs,am,hk,H,Q,w,ad,rfl,ao,hv⟩
 obtain rfl:j=(k:Int)-1:=by simpa using am
 have V:g.le (Kq .u64 B7 g bu us bq qs):=A8x hu hq hne
 have su:SlI .u64 (Kq .u64 B7 g bu us bq qs) (some ⟨bu,0,none⟩) us:=A8w hne
 unfold En
 refine B3 (fun h1=>?_) (fun h1=>?_)
 ·obtain ⟨j,rfl⟩:∃ j,k=j+1:=⟨k-1,by omega⟩
  have ej:((j+1:Nat):Int)-1=(j:Int):=by omega
  rw [ej]
  have e1:B4 ((j:Int)+((mm+2:Nat):Int))=((j+(mm+2):Nat):Int):=by rw [B5 (by omega) (by omega)];omega
  have e2:B4 (((j+(mm+2):Nat):Int)+1)=((j+(mm+3):Nat):Int):=by rw [B5 (by omega) (by omega)];omega
  simp only [e1,e2,aC]
  have y:=w.drop j
  have G:(us.drop j).length=N-j:=by rw [aS,H]
  have z:val b64 ((us.drop j).drop (mm+3))=0:=by
   have:=Sq (B:=b64) (by decide) (n:=mm+2) (w.drop (j+1)) (by omega)
   rw [cM] at this ⊢
   rw [show j+(mm+3)=j+1+(mm+2) by omega];exact this
  have aj:=A6f b64 us j
  have ar:val b64 (us.drop j)<Y*b64:=by
   have bb:=J5 w j
   rw [aj]
   have t1:b64*(val b64 (us.drop (j+1))+1)<=b64*Y:=aG (by omega) (by decide)
   have t2:b64*(val b64 (us.drop (j+1))+1)=b64*val b64 (us.drop (j+1))+18446744073709551616:=by show (18446744073709551616:Int)*_=_;grind
   have t3:Y*b64=b64*Y:=aP _ _
   omega
  have F:=G4 b64 (us.drop j) (i:=mm+3) (by omega)
  rw [z,eK,eP] at F
  have an:=H2 b64 (us.drop j) (mm+2)
  have hX:val b64 (us.drop j)=val b64 ((us.drop j).take (mm+2))+b64^(mm+2)*(us.drop j).getD (mm+2) 0:=by rw [F];exact an
  refine ⟨⟨by omega,by omega⟩,⟨by omega,by omega⟩,?_⟩
  have sw:SlI .u64 (Kq .u64 B7 g bu us bq qs) (J6 (some ⟨bu,0,none⟩) N j 1) ((us.drop j).take (mm+3)):=by
   have:=su.cut (c:=N) (l:=j) (m:=j+(mm+3)) (by omega) (by omega) (by omega)
   rwa [show j+(mm+3)-j=mm+3 by omega] at this
  generalize hXX:val b64 (us.drop j)=X at *
  refine Xk (m:=mm) (X:=X) (Y:=Y) sw (sv.mono V) (by rw [aF,G];omega) hn.symm (y.take _) dv (by rw [aF,G];omega) hn (by omega) hv1 F.symm hY ar ?_
  intro q q0 q1 q2 q3
  refine ⟨_,rfl,⟨by omega,by omega⟩,⟨by omega,by omega⟩,?_⟩
  have w0:=B2a (e:=B7) (us:=us) (qs:=qs) hu hne
  have ah:SlI .u64 (blk .u64 B7 g bq qs) VA vs:=sv.mono (Kp hq qs)
  have hW:(us.drop j).take (j+(mm+2)-j)=(us.drop j).take (mm+2):=by rw [show j+(mm+2)-j=mm+2 by omega]
  have w1:=w0.sub (l:=j) (m:=j+(mm+2)) (c:=N) (by omega) (by omega) (by omega)
  rw [hW] at w1
  have E:((us.drop j).take (mm+2)).length=mm+2:=by rw [aF,G];omega
  refine Hk w1 (by rw [E];omega) ah hn.symm (y.take _) dv (by rw [E,hn]) ⟨q0,q1⟩ (by omega) ?_
  intro W c h2 r O x M w2
  rw [E] at r M
  refine ⟨_,rfl,?_⟩
  have w3:=w0.whole (l:=j) (m:=j+(mm+2)) (by omega) (by omega) (by omega) w2
  have T:=B0n hne w3
  have o:(us.take j).length=j:=by rw [aF,H];omega
  have al:us.drop (j+(mm+2))=(us.drop j).drop (mm+2):=by rw [cM]
  rw [bF,al] at T
  subst T
  generalize hws:us.drop j=ws at *
  have p:(W++ws.drop (mm+2)).length=ws.length:=by rw [aN,aS];omega
  have dW:Dig b64 (W++ws.drop (mm+2)):=O.append (y.drop _)
  have af:(W++ws.drop (mm+2)).getD (mm+2) 0=ws.getD (mm+2) 0:=by
   simp only [cK]
   rw [fA (by omega),r,Nat.sub_self,List.getElem?_drop,eJ]
  have ab:=J5 y (mm+2)
  have aq:(us.take j++(W++ws.drop (mm+2))).length=N:=by rw [aN,p,o];omega
  have av:SlI .u64 (Kq .u64 B7 g bu (us.take j++(W++ws.drop (mm+2))) bq qs) (some ⟨bu,0,none⟩) (us.take j++(W++ws.drop (mm+2))):=A8w hne
  have ay:j+(mm+2)=(mm+2)+(us.take j).length:=by omega
  refine av.load aq.symm (by omega) (by omega) ?_
  rw [aC,ay,Wu,af]
  refine ⟨_,rfl,by omega,by omega,?_⟩
  refine A0b (i:=mm+2+(us.take j).length) E2 hne (by omega) ?_
  rw [A1n]
  have hP:0<b64^(mm+2):=D4 (by decide) _
  have ai:=N5 (by decide) O
  have a2:=C1 (by decide) O
  rw [r] at ai
  rw [hY] at M
  have hD:X-q*Y=val b64 W+(ws.getD (mm+2) 0-c)*b64^(mm+2):=by rw [M,hX];grind
  have ae:X-q*Y<Y:=by
   have:(q+1)*Y=q*Y+Y:=by grind
   omega
  have a4: -Y<=X-q*Y:=by
   have:(q-1)*Y=q*Y-Y:=by grind
   omega
  have ba:0<=X:=by
   have t1:=C1 (by decide) (y.take (mm+2))
   have t2:=aQ (aL hP) ab.1
   omega
  have a3:ws.getD (mm+2) 0-c=0\/ws.getD (mm+2) 0-c= -1:=by
   have t2:ws.getD (mm+2) 0-c<1:=by
    by_cases x:ws.getD (mm+2) 0-c<1
    ·exact x
    ·have:=aD (show 1<=ws.getD (mm+2) 0-c by omega) (aL hP);omega
   have t3: -2<ws.getD (mm+2) 0-c:=by
    by_cases x: -2<ws.getD (mm+2) 0-c
    ·exact x
    ·have:=aD (show ws.getD (mm+2) 0-c <= -2 by omega) (aL hP);omega
   omega
  have A:∀ v,((W++ws.drop (mm+2)).set (mm+2) v).take (mm+2)=W:=by
   intro v
   rw [List.take_set_of_le (by omega),cP r]
  have R:∀ v,((W++ws.drop (mm+2)).set (mm+2) v).getD (mm+2) 0=v:=by
   intro v
   rw [cK,fO (by omega)];rfl
  have Z:∀ v,((W++ws.drop (mm+2)).set (mm+2) v).drop (mm+3)=ws.drop (mm+3):=by
   intro v
   rw [E5 (by omega),show mm+3=(mm+2)+1 by omega,<- cM,dD r,cM]
  refine ⟨fun l h'=>∃ d u,l=[U u]/\h'=Kq .u64 B7 g bu (us.take j++d) bq qs/\d.length=ws.length/\Dig b64 d/\d.drop (mm+3)=ws.drop (mm+3)/\d.getD (mm+2) 0=0/\val b64 (d.take (mm+2))=X-u*Y/\0<=X-u*Y/\X-u*Y<Y/\0<=u/\u<18446744073709551616,B3 (fun h3=>?_) (fun h3=>?_),?_⟩
  ·have D:ws.getD (mm+2) 0-c= -1:=by omega
   rw [D] at hD ⊢
   have aa:C0 (-1)=18446744073709551615:=by rw [F3];omega
   rw [aa]
   have au:1<=q:=by
    by_cases x:1<=q
    ·exact x
    ·have:q=0:=by omega
     subst this;omega
   have e5:(q-1)*Y=q*Y-Y:=by grind
   have bk:=B8p (g:=g) (bu:=bu) (bq:=bq) (pre:=us.take j) (qs:=qs) (VA:=VA) (vs:=vs) (n:=mm+2) (N:=N) (ws:=(W++ws.drop (mm+2)).set (mm+2) 18446744073709551615) (q:=q)
    (J:=fun l h'=>∃ d u,l=[U u]/\h'=Kq .u64 B7 g bu (us.take j++d) bq qs/\d.length=ws.length/\Dig b64 d/\d.drop (mm+3)=ws.drop (mm+3)/\d.getD (mm+2) 0=0/\val b64 (d.take (mm+2))=X-u*Y/\0<=X-u*Y/\X-u*Y<Y/\0<=u/\u<18446744073709551616)
    hu hq hne sv dv hn.symm (dW.set (by decide)) (by rw [aN,bL,p,o];omega) (by rw [bL,p];omega) (by omega) (by rw [A,hY];omega) (by rw [A,hY];omega) (R _) ?_
   ·rw [o] at bk;exact bk
   ·intro d g1 g2 g3 g4 g5
    rw [A,hY] at g5
    rw [C2 (n:=q-1) (by omega) (by omega)]
    refine ⟨d,q-1,rfl,rfl,by rw [g1,bL,p],g2,by rw [g3,Z],g4,by omega,by omega,by omega,by omega,by omega⟩
  ·have L:ws.getD (mm+2) 0-c=0:=by omega
   rw [L] at hD ⊢
   have ak:C0 0=0:=by rw [F3];omega
   rw [ak]
   exact ⟨(W++ws.drop (mm+2)).set (mm+2) 0,q,rfl,rfl,by rw [bL,p],dW.set (by decide),Z _,R _,by rw [A];omega,by omega,ae,q0,q1⟩
  ·rintro q4 a1 ⟨d,u,ax,rfl,g1,g2,g3,g4,g5,g6,g7,g8,g9⟩
   obtain rfl:q4=u:=by simpa using ax
   refine ⟨_,rfl,by omega,by omega,?_⟩
   refine A0c (i:=j) E2 (by omega) ?_
   rw [B5 (by omega) (by omega)]
   have ac:val b64 d=X-q4*Y:=by
    have z1:=G4 b64 d (i:=mm+3) (by omega)
    rw [g3,z,H2,g4,g5] at z1
    simp at z1
    omega
   refine ⟨⟨j,us.take j++d,qs.set j q4,rfl,by omega,by rw [aN,g1,o];omega,by simpa using Q,(w.take j).append g2,ad.set ⟨g8,g9⟩,rfl,?_,?_⟩,by simp only [iAt,aH];omega⟩
   ·rw [dD o,ac];exact g7
   ·have S:=G4 b64 us (i:=j) (by omega)
    rw [hws,hXX] at S
    rw [hv,Ef (by omega),E8,o,ac,S,aZ]
    simp only [val]
    grind
 ·have az:k=0:=by omega
  subst az
  simp at ao hv
  have a9:0<b:=by
   by_cases x:0<b
   ·exact x
   ·have:=aD (show b<=0 by omega) (aL hp);omega
  have a5:=C1 (by decide) w
  have hR:val b64 us=(a-val b64 qs*b)*2^s:=by
   rw [hua,hYb] at hv
   grind
  have ap:0<=a-val b64 qs*b:=by
   by_cases x:0<=a-val b64 qs*b
   ·exact x
   ·have:=aD (show a-val b64 qs*b <= -1 by omega) (aL hp);omega
  have aw:a-val b64 qs*b<b:=by
   by_cases x:a-val b64 qs*b<b
   ·exact x
   ·have:=aD (show b<=a-val b64 qs*b by omega) (aL hp);omega
  have C:a/b=val b64 qs:=by
   have:a=(a-val b64 qs*b)+val b64 qs*b:=by omega
   rw [this,dT _ _ (by omega),bK ap aw,cO]
  have ag:a%b=a-val b64 qs*b:=by
   have:=Int.emod_def a b
   rw [this,C,aP]
  rw [C,ag] at hK
  rw [<- Q]
  refine N4 B8o ad (bD _) (by omega) ?_
  intro m1 aa M1
  refine ⟨_,_,_,rfl,?_⟩
  rw [<- H]
  refine N4 su w (bD _) (by omega) ?_
  intro m2 bc M2
  refine ⟨_,_,_,rfl,?_⟩
  rw [C2 (by omega) (by omega)]
  refine Ei M2 (by have:=M2.len_le (by decide) (j:=mm+2) (by omega);omega) (by omega) ?_
  intro A3 m3 c3 h3 l3 k3 M3
  have a0:val b64 us/2^s=a-val b64 qs*b:=by rw [hR,eE _ (by omega)]
  rw [a0] at M3
  exact ⟨_,_,_,rfl,hK _ _ _ _ _ _ _ (Heap.le_trans V l3) (by omega) k3 (M1.mono l3) M3⟩
end
section
variable {h g:bJ} {K:VP} {A B:Option bN} {ac bc:Nat}
set_option maxHeartbeats 1000000 in
def Cy{x y:Int}{an bn:Nat}(ma:Mw h A an x)(mb:Mw h B bn y)(ha:an<=ac)(hbc:bn<=bc)(hy:y≠0)(hl:an<=1000000000)(hl2:bn<=1000000000)
 (hK:∀ A1 m1 c1 A2 m2 c2 h',h.le h'->m1<=c1->m2<=c2->Mw h' A1 m1 (x/y)->Mw h' A2 m2 (x%y)->K (.tuple #[.slice A1 m1 c1,.slice A2 m2 c2]) h'):aY prog G7 #[.slice A an ac,.slice B bn bc] h K:=by
 have V:=ma.nonneg (by decide)
 have ah:=mb.nonneg (by decide)
 have a2:=mb.len_zero (by decide)
 have C:=ma.lt (by decide)
 have a4:=mb.lt (by decide)
 refine Oq _ _ _ _ _ _ ?_
 unfold Kw
 refine E6 ma mb (by omega) ⟨_,rfl,B3 (fun u=>?_) (fun u=>E7 (fun h2=>?_) (fun h2=>?_))⟩
 ·have O:x<y:=by
   unfold Cc at u
   by_cases c:x<y
   ·exact c
   ·rw [iN c] at u
    by_cases M:x>y
    ·rw [iP M] at u;omega
    ·rw [iN M] at u;omega
  rw [bK V O,eO V O] at hK
  exact hK none 0 0 _ _ _ _ (B0 h) (bD _) ha Mag.zero ma
 ·obtain ⟨a,rfl,sy,Z,ny,rfl⟩:=mb
  have W:a.length=1:=by omega
  obtain ⟨d,rfl⟩:∃ d,a=[d]:=by
   cases a with
   | nil=>simp at W
   | cons d r=>
    cases r with
    | nil=>exact ⟨d,rfl⟩
    | cons _ _=>simp at W
  rw [Dk] at hy ah hK
  have hd:=Z d (by simp)
  obtain ⟨w,rfl⟩:∃ w:Nat,d=w:=⟨d.toNat,by omega⟩
  refine sy.load rfl (by omega) (by simp) ?_
  show aY _ _ #[_,U (w:Int)] _ _
  have hw:w<18446744073709551616:=by have:=hd.2;have:(w:Int)<18446744073709551616:=this;omega
  refine Rg ma ⟨by omega,hw⟩ hl ?_
  intro A' m c' h' aq hm a3 hM
  refine ⟨_,_,_,_,rfl,?_⟩
  refine Z9 ⟨aR _ (by omega),by have:=aJ x (show (0:Int)<w by omega);omega⟩ ?_
  intro A2 m2 c2 h3 E k3 M3
  exact ⟨_,_,_,rfl,hK _ _ _ _ _ _ _ (Heap.le_trans aq E) hm k3 (hM.mono E) M3⟩
 ·have aj:y<=x:=by
   unfold Cc at u
   by_cases c:x<y
   ·rw [iP c] at u;omega
   ·omega
  have a7:bn<=an:=mb.len_le (by decide) (cJ aj C)
  have aw:=mb
  have ad:=ma
  obtain ⟨a,rfl,sy,Z,ny,rfl⟩:=mb
  obtain ⟨mm,hmm⟩:∃ mm,a.length=mm+2:=⟨a.length-2,by omega⟩
  have gt:=J5 Z (mm+1)
  have al:=A6p (m:=mm+1) hmm ny
  obtain ⟨J,p⟩:=Gr (B:=b64) (by decide) Z (m:=mm+1) hmm
  have e1:B4 ((a.length:Int)-1)=((mm+1:Nat):Int):=by rw [B5 (by omega) (by omega)];omega
  rw [e1]
  refine sy.load rfl (by omega) (by omega) ?_
  rw [aC]
  obtain ⟨t,ht⟩:∃ t:Nat,a.getD (mm+1) 0=t:=⟨(a.getD (mm+1) 0).toNat,by omega⟩
  rw [ht] at gt al J p ⊢
  have q:t≠0:=by omega
  refine O4 (by omega) ⟨_,rfl,?_⟩
  obtain ⟨ax,az⟩:=Db q
  have a0:M0 t<=64:=Fx (k:=64) (by omega)
  have ay:1<=M0 t:=by unfold M0;rw [iN q];omega
  obtain ⟨s,hs⟩:∃ s,s=64-M0 t:=⟨_,rfl⟩
  rw [<- hs]
  have F:s<64:=by omega
  have b:0<(2:Int)^s:=bG (by decide)
  have ai:=W7 (s:=s) (by omega)
  have z:M0 t=64-s:=by omega
  have ap:(t:Int)+1<=2^(64-s):=by
   rw [<- z]
   have:((t+1:Nat):Int)<=((2^M0 t:Nat):Int):=by omega
   simpa using this
  have am:(2:Int)^(63-s)<=t:=by
   have:((2^(M0 t-1):Nat):Int)<=((t:Nat):Int):=by omega
   rw [show M0 t-1=63-s by omega] at this
   simpa using this
  have Q:(2:Int)^s*2^(63-s)=9223372036854775808:=by
   rw [<- aW,show s+(63-s)=63 by omega];decide
  have aa:C0 (s:Int)=(s:Int):=C2 (by omega) (by omega)
  rw [aa]
  have j:=D4 (B:=b64) (by decide) (mm+1)
  have av:val b64 a*2^s<b64^(mm+2):=by
   have t2:val b64 a*2^s<((t:Int)+1)*b64^(mm+1)*2^s:=bI J b
   have t3:((t:Int)+1)*b64^(mm+1)*2^s=((t:Int)+1)*2^s*b64^(mm+1):=by grind
   have t4:((t:Int)+1)*2^s*b64^(mm+1)<=18446744073709551616*b64^(mm+1):=by
    apply aD _ (aL j)
    rw [<- ai,aP (2^s)]
    exact aD ap (aL b)
   have t5:b64^(mm+2)=18446744073709551616*b64^(mm+1):=by rw [aZ b64 (mm+1),aP]
   omega
  have a6:9223372036854775808*b64^(mm+1)<=val b64 a*2^s:=by
   have t1:(t:Int)*b64^(mm+1)*2^s<=val b64 a*2^s:=aD p (aL b)
   have t2:9223372036854775808*b64^(mm+1)<=(t:Int)*2^s*b64^(mm+1):=by
    apply aD _ (aL j)
    rw [<- Q,aP (t:Int)]
    exact aG am (by omega)
   have t3:(t:Int)*2^s*b64^(mm+1)=(t:Int)*b64^(mm+1)*2^s:=by grind
   omega
  refine S0 aw hbc hl2 (by omega) ?_
  intro A1 n1 c1 g1 l1 k1 M1
  refine ⟨_,_,_,rfl,?_⟩
  have af:n1=mm+2:=by
   have q1:=M1.len_le (by decide) av
   have q2:=M1.lt (by decide)
   by_cases c:n1=mm+2
   ·exact c
   ·have:=D3 (B:=b64) (by decide) (show n1<=mm+1 by omega)
    omega
  subst af
  obtain ⟨X,R,sv,dv,nv,G⟩:=M1
  have ag:b64<=2*X.getD (mm+1) 0:=by
   obtain ⟨q1,q2⟩:=Gr (B:=b64) (by decide) dv (m:=mm+1) R.symm
   rw [G] at q1
   have:9223372036854775808<X.getD (mm+1) 0+1:=by
    by_cases c:9223372036854775808<X.getD (mm+1) 0+1
    ·exact c
    ·have:=aD (show X.getD (mm+1) 0+1<=9223372036854775808 by omega) (aL j);omega
   show (18446744073709551616:Int)<=_
   omega
  have eN:B4 ((an:Int)+1)=((an+1:Nat):Int):=by rw [B5 (by omega) (by omega)];omega
  rw [eN]
  refine P2 K9 (by omega) (by omega) (by omega) ?_
  intro bu ab
  rw [aC]
  refine ⟨_,_,_,rfl,?_⟩
  have w0:=Win.blk .u64 B7 ab (aE (an+1) 0)
  refine w0.call ?_
  refine S0 (ad.mono l1) ha hl (by omega) ?_
  intro A3 n3 c3 g3 E k3 M3 h4 w4
  refine ⟨_,_,_,rfl,?_⟩
  have ak:x*2^s<b64^(an+1):=by
   have t1:x*2^s<b64^an*2^s:=bI C b
   have t2:b64^an*2^s<=b64^an*18446744073709551616:=by
    apply aG _ (aL (D4 (by decide) an))
    have:=D3 (B:=2) (by decide) (show s<=64 by omega)
    have e:(2:Int)^64=18446744073709551616:=by decide
    omega
   rw [aZ];show _<b64^an*(18446744073709551616:Int);omega
  have a1:=M3.len_le (by decide) ak
  obtain ⟨us,ar,ae,ao,a5,T⟩:=M3
  refine Ay K9 w4 (by simp) (ae.mono w4.le) ar (by simp;omega) ?_
  intro h5 w5
  refine ⟨_,rfl,?_⟩
  rw [bA] at w5
  generalize hu0:us++aE (an+1-us.length) (0:Int)=us0 at w5
  have H:us0.length=an+1:=by rw [<- hu0];simp;omega
  have l:Dig b64 us0:=by rw [<- hu0];exact ao.append (J7 (by decide) _)
  have o:val b64 us0=x*2^s:=by rw [<- hu0,Bf];exact T
  obtain ⟨nq,hnq⟩:∃ nq,an+1=nq+(mm+2):=⟨an+1-(mm+2),by omega⟩
  have eq:B4 (B4 ((an:Int)-(a.length:Int))+1)=(nq:Int):=by
   rw [B5 (n:=(an:Int)-(a.length:Int)) (by omega) (by omega),B5 (by omega) (by omega)];omega
  rw [eq]
  refine P2 K9 (by omega) (by omega) (by omega) ?_
  intro bq g
  rw [aC]
  refine ⟨_,_,_,rfl,?_⟩
  have au:h5=blk .u64 B7 g3 bu us0:=by rw [w5.eq];simp [blk]
  subst au
  have L:g3 bu=none:=w5.free
  have D:bu≠bq:=by
   rintro rfl
   unfold blk at g
   rw [B8] at g;cases g
  have S:g3 bq=none:=by
   have:=g
   unfold blk at this
   rwa [B6 _ _ D.symm] at this
  rw [hmm]
  refine A1m (us0:=us0) (N:=an+1) (xn:=an) L S D (sv.mono E) dv R.symm ag F G rfl l H o rfl hnq (by omega) (by omega) ?_ ?_
  ·have s1:=G4 b64 us0 (i:=nq) (by omega)
   have s2:=C1 (by decide) (l.take nq)
   have s3:val b64 us0<b64^an*2^s:=by
    rw [o];exact bI C b
   have s4:b64^(mm+1)<=val b64 a:=by
    have:=aD (show 1<=(t:Int) by omega) (aL j);omega
   have s5:b64^nq*(b64^(mm+1)*2^s)<=b64^nq*(val b64 a*2^s):=aG (aD s4 (aL b)) (aL (D4 (by decide) nq))
   have s6:b64^nq*(b64^(mm+1)*2^s)=b64^an*2^s:=by
    rw [<- cD,<- aW,show nq+(mm+1)=an by omega]
   by_cases c:val b64 (us0.drop nq)<val b64 a*2^s
   ·exact c
   ·have:=aG (show val b64 a*2^s<=val b64 (us0.drop nq) by omega) (aL (D4 (B:=b64) (by decide) nq));omega
  ·intro A5 m5 c5 A6 m6 c6 h6 l6 k5 k6 M5 M6
   exact hK _ _ _ _ _ _ _ (Heap.le_trans l1 (Heap.le_trans E l6)) k5 k6 M5 M6
end
def Xm{x a b p:Int}(h:a+p*b=x)(h0:0<=a)(h1:a<p):x/p=b/\x%p=a:=(Int.ediv_emod_unique (by omega)).2 ⟨h,h0,h1⟩
def Sv{P:dE}{h:bJ}{A:Option bN}{n m c s:Nat}{cs:List eA}(hl:cs.length=n*s)(hc:cs=[]\/∃ a,A=some a/\∀ j v,cs[j]? = some v->h.cell? (a.add j)=some v){K:Array eA->bJ->Prop}(x:K cs.toArray h):
 wpH P (Builtin.firstCells s n (.slice A m c)) K h:=by
 cases A with
 | none=>
  rcases hc with rfl|⟨a,e,_⟩
  ·exact x
  ·cases e
 | some a=>
  show wpH P (loadCells a (n*s)) K h
  rcases hc with rfl|⟨b,e,hc⟩
  ·exact S1 (cs:=[]) hl.symm (fun j v e=>by simp at e) x
  ·cases e
   exact S1 hl.symm hc x
def B25{P:dE}{t e ty:cH}{k:cV}{bytes:Nat}(s:SliceT P t e (.int k 0) 1 bytes){h g:bJ}{b:Nat}{A:Option bN}{pre post:List eA}{xs:List Int}{n c m d:Nat}(w:Win k h g b e A pre xs post)(hn:n=xs.length){B:Option bN}{ys:List Int}(sy:SlI k h B ys)(hm:min m xs.length=ys.length){K:VP}
 (x:∀ h',Win k h' g b e A pre (ys++xs.drop ys.length) post->K (I ys.length) h'):wpH P (dM #[t,t] ty #[.slice A n c,.slice B m d]) K h:=by
 subst hn
 have l:ys.length<=xs.length:=by omega
 obtain ⟨i,q,z,p,r⟩:=s.parts
 unfold dM
 simp only [dY,aH,aO,B9,D6 s.und,J2 q,E9,Builtin.lenOf,p]
 have o:Nat.min m xs.length=ys.length:=hm
 rw [o]
 refine Sv (s:=1) (cs:=ys.map (bH k)) (by simp) sy ?_
 cases A with
 | none=>
  rcases w.at_ with j|j
  ·subst j
   have:ys=[]:=aU (by simpa using l)
   subst this
   exact x h (by simpa using w)
  ·cases j
 | some a=>
  simp only [B9]
  rcases w.at_ with j|j
  ·subst j
   have:ys=[]:=aU (by simpa using l)
   subst this
   exact x h (by simpa using w)
  ·cases j
   rw [w.eq]
   refine H1 (ys.map (bH k)) pre.length 0 (pre++xs.map (bH k)++post) (by simp;omega) (fun v y=>?_) ?_
   ·obtain ⟨u,_,rfl⟩:=List.mem_map.1 y;rfl
   ·refine x _ ⟨w.free,?_,?_⟩
    ·congr 3
     unfold H8
     rw [eJ,bF pre,cP rfl,dX]
     rw [eR,aX (show pre.length<=pre.length+ys.length by omega),cG,cA]
     rw [cZ (by simpa using l),<- List.map_drop,dC]
     simp only [bF]
    ·right;rfl
section
variable {h g:bJ} {K:VP} {A B:Option bN} {ac bc:Nat}
def B3a(a n:Nat):(if (a:Int)<(n:Int) then (a:Int) else (n:Int))=((min n a:Nat):Int):=by split<;>omega
def Jf{xs:List Int}(d:Dig b64 xs)(n:Nat):val b64 xs/b64^n=val b64 (xs.drop (min n xs.length))/\val b64 xs%b64^n=val b64 (xs.take (min n xs.length)):=by
 by_cases c:n<=xs.length
 ·rw [aI c]
  have e:=G4 b64 xs c
  have a:=C1 (by decide) (d.take n)
  have b:=N5 (by decide) (d.take n)
  rw [aF,aI c] at b
  exact Xm e.symm a b
 ·rw [dN (by omega),eQ,aV]
  have a:=C1 (by decide) d
  have b:=N5 (by decide) d
  have g:=D3 (B:=b64) (by decide) (show xs.length<=n by omega)
  exact Xm (by simp [val]) a (by omega)
def V4{x:Int}{an n:Nat}(ma:Mw h A an x)(ha:an<=ac)(hK:∀ A' m c',m<=c'->m<=an->Mw h A' m (x/b64^n)->K (.slice A' m c') h):aY prog R5 #[.slice A an ac,I n] h K:=by
 obtain ⟨xs,rfl,c,a,b,rfl⟩:=ma
 refine Xu _ _ _ _ ?_
 unfold Uv
 rw [B3a,aC]
 refine ⟨⟨by omega,by omega⟩,hK _ _ _ (by omega) (by omega) ?_⟩
 rw [(Jf a n).1,<- aS]
 refine Mw.of (Xn c (by omega) ha) (a.drop _) ?_
 by_cases d:min n xs.length<xs.length
 ·exact Jw b d
 ·rw [aX (by omega)];exact Norm.nil
def Dt{x:Int}{an n:Nat}(ma:Mw h A an x)(ha:an<=ac)(hl:an<=10000000000)(hK:∀ A' m c',m<=c'->m<=n->m<=an->Mw h A' m (x%b64^n)->K (.slice A' m c') h):aY prog At #[.slice A an ac,I n] h K:=by
 obtain ⟨xs,rfl,b,a,d,rfl⟩:=ma
 refine A0i _ _ _ _ ?_
 unfold A0j
 rw [B3a,aC,L3,bV,bV]
 refine ⟨⟨by omega,by omega⟩,Z4 (Hh b (m:=min n xs.length) (by omega) ha) (a.take _) (by rw [aF];omega) (Jf a n).2.symm (by omega) (by omega) ?_⟩
 intro m c M
 exact ⟨_,_,_,rfl,hK _ _ _ (by omega) (by omega) (by omega) M⟩
def Fm{x y:Int}{an bn n:Nat}(ma:Mw h A an x)(mb:Mw h B bn y)(hbn:bn<=n)(hl:n+an<=5000000000)(hK:∀ A' m c' h',h.le h'->m<=c'->Mw h' A' m (x*b64^n+y)->K (.slice A' m c') h'):aY prog Ip #[.slice A an ac,.slice B bn bc,I n] h K:=by
 obtain ⟨xs,rfl,D,o,H,rfl⟩:=ma
 obtain ⟨a,rfl,z,p,F,rfl⟩:=mb
 refine B2k _ _ _ _ _ _ _ ?_
 unfold B8v
 have u:B4 ((n:Int)+xs.length)=((n+xs.length:Nat):Int):=by rw [B5 (by omega) (by omega)];omega
 rw [u]
 refine P2 K9 (by omega) (by omega) (by omega) ?_
 intro b r
 rw [aC]
 refine ⟨_,_,_,rfl,?_⟩
 have j:=Win.blk .u64 B7 r (aE (n+xs.length) 0)
 refine Ay K9 j (by simp) (z.mono j.le) rfl (by simp;omega) ?_
 intro G d
 refine ⟨_,rfl,⟨by omega,by omega⟩,?_⟩
 rw [bA] at d
 generalize hz:a++aE (n+xs.length-a.length) (0:Int)=zs at d
 have s:zs.length=n+xs.length:=by rw [<- hz];simp;omega
 have C:=d.sub (l:=n) (m:=n+xs.length) (c:=n+xs.length) (by omega) (by omega) (by omega)
 rw [aC]
 refine Ay K9 C (by rw [aF,aS];omega) (D.mono d.le) rfl (by rw [aF,aS];omega) ?_
 intro E k
 rw [aX (by rw [aF,aS];omega),cC] at k
 have g:=d.whole (l:=n) (m:=n+xs.length) (by omega) (by omega) (by omega) k
 rw [aX (show zs.length<=n+xs.length by omega),cC] at g
 have i:zs.take n=a++aE (n-a.length) 0:=by
  rw [<- hz,List.take_append,aM (by omega),cF]
  congr 2;omega
 rw [i] at g
 refine ⟨_,rfl,Z4 g.sl ((p.append (J7 (by decide) _)).append o) (by simp;omega) rfl (by omega) (by omega) ?_⟩
 intro m w M
 refine ⟨_,_,_,rfl,hK _ _ _ _ g.le w ?_⟩
 rw [E8,Bf] at M
 have e:(a++aE (n-a.length) (0:Int)).length=n:=by simp;omega
 rw [e] at M
 have q:val b64 xs*b64^n+val b64 a=val b64 a+b64^n*val b64 xs:=by rw [aP];omega
 rw [q];exact M
def B5q{x y:Int}(hx:0<=x/\x<18446744073709551616)(hy:0<=y/\y<18446744073709551616)(hK:K (.tuple #[U (x*y/18446744073709551616),U (x*y%18446744073709551616)]) h):aY prog A8a #[U x,U y] h K:=by
 refine B6j _ _ ?_
 unfold C2o
 exact Jx hx hy ⟨_,_,rfl,hK⟩
def A1s{v:Int}{n:Nat}(s:SlI .u64 h A [v])(hn:0<n)(hl:n<=1000000000)(hK:∀ A' h',h.le h'->SlI .u64 h' A' (aE n v)->K (.slice A' n n) h'):aY prog Qt #[.slice A 1 ac,I n] h K:=by
 refine A5l _ _ _ _ ?_
 unfold A9c
 refine B3 (fun d=>by omega) (fun _=>?_)
 rw [C2 (n:=((1:Nat):Int)) (by omega) (by omega),C2 (n:=(n:Int)) (by omega) (by omega)]
 refine B5q (by omega) (by omega) ⟨_,_,rfl,?_⟩
 have E:((1:Nat):Int)*(n:Int)/18446744073709551616=0:=by omega
 have x:((1:Nat):Int)*(n:Int)%18446744073709551616=n:=by omega
 rw [E,x]
 refine B3 (fun d=>by omega) (fun _=>?_)
 refine B3 (fun d=>by omega) (fun _=>?_)
 rw [B5 (n:=(n:Int)) (by omega) (by omega)]
 refine P2 K9 (by omega) (by omega) (by omega) ?_
 intro b z
 rw [aC]
 refine ⟨_,_,_,rfl,?_⟩
 have j:=Win.blk .u64 B7 z (aE n 0)
 refine Ay K9 j (by simp) (s.mono j.le) rfl (by simp;omega) ?_
 intro d o
 refine ⟨_,rfl,?_⟩
 rw [bA] at o
 refine ⟨fun l g=>∃ k:Nat,l=[I k]/\0<k/\k<=n/\Win .u64 g h b B7 (some ⟨b,0,none⟩) [] (aE k v++aE (n-k) 0) [],fun l _=>n-(iAt l 0).toNat,⟨1,rfl,by omega,hn,o⟩,?_⟩
 rintro i g ⟨k,e,D,a,w⟩
 obtain rfl:=sI1 e
 refine B3 (fun u=>?_) (fun u=>?_)
 ·have B:(aE k v++aE (n-k) (0:Int)).length=n:=by simp;omega
  refine ⟨⟨by omega,by omega⟩,⟨by omega,by omega⟩,?_⟩
  simp only [aC,L3,bV]
  have q:=w.sub (l:=k) (m:=n) (c:=n) (by omega) (by omega) (by omega)
  have G:((aE k v++aE (n-k) (0:Int)).drop k).take (n-k)=aE (n-k) 0:=by
   rw [dD (by simp),aM (by simp)]
  rw [G] at q
  have C:SlI .u64 g (some ⟨b,0,none⟩) (aE (min k (n-k)) v):=by
   have:=Hh w.sl (c:=n) (m:=min k (n-k)) (by omega) (by omega)
   rwa [eU (by simp;omega),cF,aI (by omega)] at this
  refine B25 K9 q (by simp) C (by simp) ?_
  intro H p
  rw [bY] at p ⊢
  have r:=w.whole (l:=k) (m:=n) (by omega) (by omega) (by simp;omega) p
  have F:B4 ((k:Int)+(min k (n-k):Nat))=((k+min k (n-k):Nat):Int):=by rw [B5 (by omega) (by omega)];omega
  refine ⟨_,rfl,?_⟩
  rw [F]
  refine ⟨⟨_,rfl,by omega,by omega,?_⟩,?_⟩
  ·have y:(aE k v++aE (n-k) (0:Int)).take k++(aE (min k (n-k)) v++(aE (n-k) (0:Int)).drop (min k (n-k)))++(aE k v++aE (n-k) (0:Int)).drop n=aE (k+min k (n-k)) v++aE (n-(k+min k (n-k))) 0:=by
    rw [cP (by simp),aX (show (aE k v++aE (n-k) (0:Int)).length<=n by omega),cC,bA,<- bF,cU]
    congr 2;omega
   rw [y] at r
   exact r
  ·simp only [iAt,aH];omega
 ·have a:k=n:=by omega
  subst a
  have:=w.sl
  rw [Nat.sub_self,List.replicate_zero,cC] at this
  exact hK _ _ w.le this
end
def Mw.high{h:bJ}{A:Option bN}{an ac k:Nat}{x:Int}(ma:Mw h A an x)(ha:an<=ac)(hk:k<=an):Mw h (J6 A ac k 1) (an-k) (x/b64^k):=by
 obtain ⟨xs,rfl,d,b,c,rfl⟩:=ma
 have e:=(Jf b k).1
 rw [aI hk] at e
 rw [e,<- aS]
 refine Mw.of (Xn d hk ha) (b.drop _) ?_
 by_cases a:k<xs.length
 ·exact Jw c a
 ·rw [aX (by omega)];exact Norm.nil
def B0w{x P X2 yh top:Int}(hP:0<P)(h1:x<P*P*(X2+1))(h2:P*top<=x)(hlt:X2<yh):top<P*yh:=by
 by_cases b:top<P*yh
 ·exact b
 ·have c:P*(P*yh)<=P*top:=aG (by omega) (by omega)
  have a:P*P*(X2+1)<=P*P*yh:=aG (by omega) (aQ (by omega) (by omega))
  rw [cD P P yh] at a
  omega
def B0x{x P X2 yh top:Int}(hP:0<P)(h1:P*P*X2<=x)(h2:x<P*(top+1))(hge:yh<=X2):P*yh<=top:=by
 by_cases b:P*yh<=top
 ·exact b
 ·have c:P*(top+1)<=P*(P*yh):=aG (by omega) (by omega)
  have a:P*P*yh<=P*P*X2:=aG (by omega) (aQ (by omega) (by omega))
  rw [cD P P yh] at a
  omega
def B4c(N:Nat):Prop:=∀ {h:bJ} {K:VP} {A B:Option bN} {ac bc an bn:Nat} {x y:Int},bn<=N->Mw h A an x->Mw h B bn y->an<=ac->bn<=bc->an<=1000000000->bn<=200000000->0<bn->9223372036854775808*b64^(bn-1)<=y->x<b64^bn*y->
 (∀ A1 m1 c1 A2 m2 c2 h',h.le h'->m1<=c1->m2<=c2->Mw h' A1 m1 (x/y)->Mw h' A2 m2 (x%y)->K (.tuple #[.slice A1 m1 c1,.slice A2 m2 c2]) h')->aY prog S9 #[.slice A an ac,.slice B bn bc] h K
section
variable {h g:bJ} {K:VP} {A B:Option bN} {ac bc:Nat}
def Bt{x y:Int}:Cc x y<0↔x<y:=by
 unfold Cc
 by_cases a:x<y
 ·rw [iP a];simp [a]
 ·rw [iN a]
  by_cases b:x>y
  ·rw [iP b];simp [a]
  ·rw [iN b];simp [a]
set_option maxHeartbeats 1000000 in
def A1h{x y q0 R0 pr:Int}{m bn nq cq np cp nr cr:Nat}{Aq Ap Ar:Option bN}(hx0:0<=x)(mb:Mw h B bn y)(hb:bn<=bc)(hl2:bn<=200000000)(hbm:bn=2*m)(mq:Mw h Aq nq q0)(hq:nq<=cq)(mp:Mw h Ap np pr)(hp2:pr<b64^bn)
 (mr:Mw h Ar nr R0) (hr:nr<=cr) (hq0:q0<b64^m) (hR:R0-pr=x-q0*y) (hy:x-q0*y<y)
 (hK:∀ A1 m1 c1 A2 m2 c2 h',h.le h'->m1<=c1->m2<=c2->Mw h' A1 m1 (x/y)->Mw h' A2 m2 (x%y)->K (.tuple #[.slice A1 m1 c1,.slice A2 m2 c2]) h'):
 Y2 prog B bn bc K Aq nq cq Ap np cp Ar nr cr h:=by
 have N:=mb.lt (by decide)
 have C:=mb.nonneg (by decide)
 have Q:=mp.nonneg (by decide)
 unfold Y2
 refine ⟨fun l c=>∃ (Aq Ar:Option bN) (nq cq nr cr:Nat) (q R:Int),l=[.slice Aq nq cq,.slice Ar nr cr]/\h.le c/\Mw c Aq nq q/\nq<=cq/\Mw c Ar nr R/\nr<=cr/\q<b64^m/\R-pr=x-q*y/\x-q*y<y,fun l c=>match l with|[.slice A n _,_]=>B55 b64 c A n|_=>0,⟨_,_,_,_,_,_,_,_,rfl,B0 h,mq,hq,mr,hr,hq0,hR,hy⟩,?_⟩
 rintro A1 M c1 A2 J c2 c ⟨Aq,Ar,nq,cq,nr,cr,q,R,s,e,mq,hq,mr,hr,hq0,hR,hy⟩
 simp only [bO,cL,and_true] at s
 obtain ⟨⟨rfl,rfl,rfl⟩,rfl,rfl,rfl⟩:=s
 have H:J<=bn+1:=mr.len_le (by decide) (by
  rw [aZ]
  show R<b64^bn*18446744073709551616
  omega)
 have G:M<=m:=mq.len_le (by decide) hq0
 refine E6 mr (mp.mono e) (by omega) ⟨_,rfl,?_⟩
 refine B3 (fun k=>?_) (fun k=>?_)
 ·rw [Bt] at k
  have F:=mq.nonneg (by decide)
  have j:1<=q:=by
   by_cases O:1<=q
   ·exact O
   ·obtain rfl:q=0:=by omega
    omega
  refine P3 mr (mb.mono e) hr hb (by omega) (by omega) ?_
  intro A3 L D i d g M3
  refine ⟨_,_,_,rfl,Ao K9 rfl ?_⟩
  intro b o
  refine ⟨_,_,_,rfl,?_⟩
  have r:=Heap.le_put (.cells #[U 1] B7) o
  have M1:Mw (i.put b (.cells #[U 1] B7)) (some ⟨b,0,none⟩) 1 1:=⟨[1],rfl,SlI.new i b [1] B7 _,Dig.one (by decide),by simp [Norm],Dk _ _⟩
  refine F4 ((mq.mono d).mono r) M1 hq (by omega) j ?_
  intro A5 V S T u E M5
  refine ⟨_,_,_,rfl,⟨_,_,_,_,_,_,_,_,rfl,Heap.le_trans e (Heap.le_trans d (Heap.le_trans r u)),M5,E,(M3.mono r).mono u,g,by omega,?_,?_⟩,?_⟩
  ·rw [Int.sub_mul];omega
  ·rw [Int.sub_mul];omega
  ·simp only [Fk M5,Fk mq];omega
 ·rw [Bt] at k
  refine F4 mr (mp.mono e) hr (by omega) (by omega) ?_
  intro A3 L D i d g M3
  obtain ⟨z,w⟩:=Xm (x:=x) (a:=R-pr) (b:=q) (p:=y) (by rw [hR,aP y];omega) (by omega) (by omega)
  refine ⟨_,_,_,rfl,hK _ _ _ _ _ _ _ (Heap.le_trans e d) hq g ?_ ?_⟩
  ·rw [z];exact mq.mono d
  ·rw [w];exact M3
set_option maxHeartbeats 1000000 in
def Pr{N:Nat}(ih:B4c N){x y:Int}{an bn m:Nat}(hm:0<m)(hN:m<=N)(hbm:bn=2*m)(ma:Mw h A an x)(mb:Mw h B bn y)(ha:an<=ac)(hb:bn<=bc)(hl:an<=1000000000)(hl2:bn<=200000000)(htop:9223372036854775808*b64^(bn-1)<=y)(hxy:x<b64^m*y)
 (hK:∀ A1 m1 c1 A2 m2 c2 h',h.le h'->m1<=c1->m2<=c2->Mw h' A1 m1 (x/y)->Mw h' A2 m2 (x%y)->K (.tuple #[.slice A1 m1 c1,.slice A2 m2 c2]) h'):aY prog S8 #[.slice A an ac,.slice B bn bc] h K:=by
 have ap:=ma.nonneg (by decide)
 have aw:=mb.nonneg (by decide)
 have a7:=mb.lt (by decide)
 have p:=D4 (B:=b64) (by decide) m
 have ao:b64^bn=b64^m*b64^m:=by rw [<- aW];congr 1;omega
 have J:b64^(2*m)=b64^m*b64^m:=by rw [<- aW];congr 1;omega
 have ag:b64^(bn-1)=b64^m*b64^(m-1):=by rw [<- aW];congr 1;omega
 have a:=mb.high (k:=m) hb (by omega)
 rw [show bn-m=m by omega] at a
 have d:=a.nonneg (by decide)
 have aq:=a.lt (by decide)
 have dy:b64^m*(y/b64^m)+y%b64^m=y:=aK _ _
 have ah:=aR y (b:=b64^m) (by omega)
 have a2:=aJ y p
 have dx:b64^m*(x/b64^m)+x%b64^m=x:=aK _ _
 have a5:=aR x (b:=b64^m) (by omega)
 have az:=aJ x p
 have a1:=D4 (B:=b64) (by decide) (m-1)
 have af:9223372036854775808*b64^(m-1)<=y/b64^m:=by
  by_cases hc:9223372036854775808*b64^(m-1)<=y/b64^m
  ·exact hc
  ·have o:b64^m*(y/b64^m+1)<=b64^m*(9223372036854775808*b64^(m-1)):=aG (by omega) (by omega)
   have R:b64^m*(9223372036854775808*b64^(m-1))=9223372036854775808*(b64^m*b64^(m-1)):=by grind
   rw [ag] at htop
   rw [cI] at o
   omega
 obtain ⟨ys,ae,sy,e,ad,rfl⟩:=mb
 have mb:Mw h B bn (val b64 ys):=⟨ys,ae,sy,e,ad,rfl⟩
 generalize hyv:val b64 ys=y at *
 refine Oo _ _ _ _ _ _ ?_
 unfold Kv
 have eh:B4 (dF ((bn:Nat):Int) 2)=(m:Int):=by rw [bB (by omega),B5 (by omega) (by omega)];omega
 have ab:B4 (2*(m:Int))=((2*m:Nat):Int):=by rw [B5 (by omega) (by omega)];omega
 simp only [eh,ab,aC,bV,L3]
 rw [show bn-m=m by omega]
 refine ⟨⟨by omega,by omega⟩,⟨by omega,by omega⟩,Z4 (Hh sy (m:=m) (c:=bc) (by omega) (by omega)) (e.take m) (by rw [aF];omega) rfl (by omega) (by omega) ?_⟩
 intro yn a0 Myl
 have s:=(Jf e m).2
 rw [aI (by omega),hyv] at s
 rw [<- s] at Myl
 refine ⟨_,_,_,rfl,B0 h,V4 ma ha ?_⟩
 intro A1 n1 c1 k1 a8 M1
 refine ⟨_,_,_,rfl,?_⟩
 have C:=M1.nonneg (by decide)
 refine ⟨fun l Q=>∃ (Aq Ar:Option bN) (M cq T cr:Nat) (q r:Int),l=[.slice Aq M cq,.slice Ar T cr]/\h.le Q/\Mw Q Aq M q/\M<=cq/\Mw Q Ar T r/\T<=cr/\q<b64^m/\x/b64^m=q*(y/b64^m)+r/\x-q*y<y,?_,?_⟩
 ·refine V4 ma ha ?_
  intro A2 n2 c2 k2 au M2
  refine ⟨_,_,_,rfl,E6 M2 a (by omega) ⟨_,rfl,?_⟩⟩
  have ak:b64^(2*m)*(x/b64^(2*m))+x%b64^(2*m)=x:=aK _ _
  have am:=aR x (b:=b64^(2*m)) (by have:=D4 (B:=b64) (by decide) (2*m);omega)
  have V:=aJ x (D4 (B:=b64) (by decide) (2*m))
  generalize x/b64^(2*m)=X2 at *
  rw [J] at ak am V
  refine B3 (fun O=>?_) (fun O=>?_)
  ·rw [Bt] at O
   have ht:=B0w (x:=x) (top:=x/b64^m) p (by rw [cI];omega) (by omega) O
   refine ih hN M1 a k1 (by omega) (by omega) (by omega) hm af ht ?_
   intro A3 n3 c3 A4 n4 c4 h3 n k3 k4 M3 M4
   have G:0<y/b64^m:=by omega
   have d1:=aK (x/b64^m) (y/b64^m)
   have d2:=aJ (x/b64^m) G
   have d0:=M3.nonneg (by decide)
   refine ⟨_,_,_,_,_,_,rfl,_,_,_,_,_,_,_,_,rfl,n,M3,k3,M4,k4,bC G ht,by rw [aP];omega,?_⟩
   generalize (x/b64^m)/(y/b64^m)=q at *
   generalize (x/b64^m)%(y/b64^m)=r at *
   generalize x/b64^m=top at *
   generalize y/b64^m=yh at *
   generalize y%b64^m=yl at *
   generalize x%b64^m=xl at *
   generalize b64^m=P at *
   have o:P*(r+1)<=P*yh:=aG (by omega) (by omega)
   have R:x-q*y=P*r+xl-q*yl:=by rw [<- dx,<- dy,<- d1];grind
   have t3:=aQ d0 ah
   rw [cI] at o
   omega
  ·rw [Bt] at O
   have ht:=B0x (x:=x) (top:=x/b64^m) (yh:=y/b64^m) (X2:=X2) p (by omega) (by rw [cI];omega) (by omega)
   refine Ao K9 rfl ?_
   intro b aj
   refine ⟨_,_,_,rfl,?_⟩
   have l4:=Heap.le_put (.cells #[U 18446744073709551615] B7) aj
   refine A1s (v:=18446744073709551615) (SlI.new h b [18446744073709551615] B7 _) hm (by omega) ?_
   intro A5 h5 H s5
   refine ⟨_,_,_,rfl,?_⟩
   have u:=Heap.le_trans l4 H
   refine Fm (a.mono u) (Mag.zero (k:=.u64) (B:=b64)) (by omega) (by omega) ?_
   intro A6 n6 c6 h6 l6 k6 M6
   refine ⟨_,_,_,rfl,?_⟩
   have g:=Heap.le_trans u l6
   refine F4 (M1.mono g) M6 k1 (by omega) (by rw [aP];omega) ?_
   intro A7 n7 c7 h7 L k7 M7
   have av:n7<=an:=M7.len_le (by decide) (by
    have:=ma.lt (by decide)
    have o:=aQ d (aL p)
    have R:1*(x/b64^m)<=b64^m*(x/b64^m):=aD (by omega) C
    omega)
   refine ⟨_,_,_,rfl,?_⟩
   refine P3 M7 ((a.mono g).mono L) k7 (by omega) (by omega) (by omega) ?_
   intro A8 n8 c8 h8 l8 k8 M8
   have D:∀ j:Nat,val b64 (aE j 18446744073709551615)=b64^j-1:=by
    intro j
    induction j with
    | zero=>rfl
    | succ j ihj=>
     rw [List.replicate_succ,val,ihj,aZ]
     show (18446744073709551615:Int)+18446744073709551616*(b64^j-1)=b64^j*18446744073709551616-1
     omega
   have M5:Mw h5 A5 m (b64^m-1):=by
    refine ⟨aE m 18446744073709551615,by simp,s5,?_,?_,D m⟩
    ·intro z hz
     have:=List.eq_of_mem_replicate hz
     subst this;decide
    ·obtain ⟨j,rfl⟩:∃ j,m=j+1:=⟨m-1,by omega⟩
     unfold Norm
     rw [List.replicate_succ']
     simp
   refine ⟨_,_,_,rfl,_,_,_,_,_,_,_,_,rfl,Heap.le_trans g (Heap.le_trans L l8),((M5.mono l6).mono L).mono l8,bD _,M8,k8,by omega,?_,?_⟩
   ·grind
   ·have:(b64^m-1)*y=b64^m*y-y:=by grind
    omega
 ·rintro Aq' W a6 Ar' al ax Q ⟨Aq,Ar,M,cq,T,cr,q,r,F,Z,S,hq,mr,hr,i,aa,ai⟩
  simp only [bO,cL,and_true] at F
  obtain ⟨⟨rfl,rfl,rfl⟩,rfl,rfl,rfl⟩:=F
  have w:=S.nonneg (by decide)
  have a3:=mr.nonneg (by decide)
  have a4:W<=m:=S.len_le (by decide) i
  have ay:al<=an:=mr.len_le (by decide) (by
   have:=ma.lt (by decide)
   have o:=aQ w d
   have R:1*(x/b64^m)<=b64^m*(x/b64^m):=aD (by omega) C
   omega)
  refine D9 S (Myl.mono Z) hq (by omega) (by omega) (by omega) ?_
  intro A3 n3 c3 h3 n k3 M3
  refine ⟨_,_,_,rfl,Dt (ma.mono (Heap.le_trans Z n)) ha (by omega) ?_⟩
  intro A4 n4 c4 k4 X ar M4
  refine ⟨_,_,_,rfl,Fm (mr.mono n) M4 X (by omega) ?_⟩
  intro A5 n5 c5 h5 H k5 M5
  have E:=Heap.le_trans Z (Heap.le_trans n H)
  refine ⟨_,_,_,rfl,A1h (q0:=q) (m:=m) ap (mb.mono E) hb hl2 hbm ((S.mono n).mono H) hq (M3.mono H) ?_ M5 k5 i ?_ ai ?_⟩
  ·rw [ao]
   have o:q*(y%b64^m)<=q*b64^m:=aG (by omega) w
   have R:q*b64^m<b64^m*b64^m:=bI i p
   omega
  ·generalize x/b64^m=top at *
   generalize y/b64^m=yh at *
   generalize y%b64^m=yl at *
   generalize x%b64^m=xl at *
   generalize b64^m=P at *
   rw [<- dx,<- dy,aa];grind
  ·intro A6 n6 c6 A7 n7 c7 h7 L k6 k7 M6 M7
   exact hK _ _ _ _ _ _ _ (Heap.le_trans E L) k6 k7 M6 M7
end
set_option maxHeartbeats 1000000 in
def B7v:∀ N,B4c N:=by
 intro N
 induction N with
 | zero=>intro h K A B Q O S d x y L _ _ _ _ _ _ z;omega
 | succ N ih=>
  intro h K A B Q O S d x y hN n i H q hl j ab g k V
  have ai:=n.nonneg (by decide)
  have ad:=i.nonneg (by decide)
  have e:0<y:=by
   have:=D4 (B:=b64) (by decide) (d-1);omega
  refine Ot _ _ _ _ _ _ ?_
  unfold Kx
  have c:aY prog G7 #[.slice A S Q,.slice B d O] h (fun r hp=>∃ (t22aA:Option bN) (t22an:Nat) (t22ac:Nat) (t22bA:Option bN) (t22bn:Nat) (t22bc:Nat),r= .tuple #[.slice t22aA t22an t22ac,.slice t22bA t22bn t22bc]/\K (.tuple #[.slice t22aA t22an t22ac,.slice t22bA t22bn t22bc]) hp):=by
   refine Cy n i H q (by omega) hl (by omega) ?_
   intro A1 m1 c1 A2 m2 c2 h' l G J M1 M2
   exact ⟨_,_,_,_,_,_,rfl,V _ _ _ _ _ _ _ l G J M1 M2⟩
  refine B3 (fun L=>c) (fun L=>?_)
  refine J9 (fun z=>c) (fun z=>?_)
  rw [bW (by omega)] at z
  obtain ⟨m,hbm⟩:∃ m,d=2*m:=⟨d/2,by omega⟩
  have eh:B4 (dF ((d:Nat):Int) 2)=(m:Int):=by rw [bB (by omega),B5 (by omega) (by omega)];omega
  simp only [eh]
  have W:=D4 (B:=b64) (by decide) m
  have E:b64^d=b64^m*b64^m:=by rw [<- aW];congr 1;omega
  have dx:b64^m*(x/b64^m)+x%b64^m=x:=aK _ _
  have ah:=aR x (b:=b64^m) (by omega)
  have af:=aJ x W
  rw [E] at k
  refine V4 n H ?_
  intro A1 n1 c1 G aj M1
  refine ⟨_,_,_,rfl,?_⟩
  have R:x/b64^m<b64^m*y:=by
   by_cases hc:x/b64^m<b64^m*y
   ·exact hc
   ·have C:b64^m*(b64^m*y)<=b64^m*(x/b64^m):=aG (by omega) (by omega)
    rw [cD] at k
    omega
  refine Pr ih (by omega) (by omega) hbm M1 i G q (by omega) j g R ?_
  intro A2 n2 c2 A3 n3 c3 h3 w J k3 M2 M3
  refine ⟨_,_,_,_,_,_,rfl,Dt (n.mono w) H (by omega) ?_⟩
  intro A4 n4 c4 k4 u Z M4
  have d1:=aK (x/b64^m) y
  have d2:=aJ (x/b64^m) e
  have d3:=aR (x/b64^m) (b:=y) (by omega)
  have o:x/b64^m/y<b64^m:=bC e R
  have aa:n3<=d:=M3.len_le (by decide) (by have:=i.lt (by decide);omega)
  have ae:n2<=m:=M2.len_le (by decide) o
  refine ⟨_,_,_,rfl,Fm M3 M4 u (by omega) ?_⟩
  intro A5 n5 c5 h5 D k5 M5
  refine ⟨_,_,_,rfl,?_⟩
  have T:(x/b64^m)%y*b64^m+x%b64^m<b64^m*y:=by
   have C:b64^m*((x/b64^m)%y+1)<=b64^m*y:=aG (by omega) (by omega)
   rw [cI,aP] at C
   omega
  have ag:n5<=d+m:=M5.len_le (by decide) (by
   have C:b64^m*y<b64^m*b64^d:=bX (i.lt (by decide)) W
   rw [Nat.add_comm,aW];omega)
  refine Pr ih (by omega) (by omega) hbm M5 (i.mono (Heap.le_trans w D)) k5 q (by omega) j g T ?_
  intro A6 n6 c6 A7 n7 c7 h7 X k6 k7 M6 M7
  have s:n6<=m:=M6.len_le (by decide) (bC e T)
  refine ⟨_,_,_,_,_,_,rfl,Fm ((M2.mono D).mono X) M6 s (by omega) ?_⟩
  intro A8 n8 c8 h8 M k8 M8
  refine ⟨_,_,_,rfl,?_⟩
  have e1:=aK ((x/b64^m)%y*b64^m+x%b64^m) y
  have e2:=aJ ((x/b64^m)%y*b64^m+x%b64^m) e
  have e3:=aR ((x/b64^m)%y*b64^m+x%b64^m) (b:=y) (by omega)
  have M7':=M7.mono M
  have F:=Heap.le_trans w (Heap.le_trans D (Heap.le_trans X M))
  generalize ((x/b64^m)%y*b64^m+x%b64^m)/y=q2 at *
  obtain ⟨f1,f2⟩:=Xm (x:=x) (a:=((x/b64^m)%y*b64^m+x%b64^m)%y) (b:=x/b64^m/y*b64^m+q2) (p:=y) (by
   generalize ((x/b64^m)%y*b64^m+x%b64^m)%y=r2 at *
   generalize x/b64^m/y=q1 at *
   generalize x/b64^m%y=r1 at *
   generalize x/b64^m=top at *
   generalize x%b64^m=xl at *
   generalize b64^m=P at *
   grind) e3 e2
  refine V _ _ _ _ _ _ _ F k8 k7 ?_ ?_
  ·rw [f1];exact M8
  ·rw [f2];exact M7'
def Ud{ys:List Int}{k t s:Nat}(dy:Dig b64 ys)(hk:ys.length=k+1)(ht:ys.getD k 0=(t:Int))(ht0:t≠0)(hs:s=64-M0 t):s<64/\val b64 ys*2^s<b64^(k+1)/\9223372036854775808*b64^k<=val b64 ys*2^s:=by
 have x:=J5 dy k
 obtain ⟨d,a⟩:=Gr (B:=b64) (by decide) dy (m:=k) hk
 rw [ht] at x d a
 obtain ⟨o,r⟩:=Db ht0
 have p:M0 t<=64:=Fx (k:=64) (by omega)
 have q:1<=M0 t:=by unfold M0;rw [iN ht0];omega
 have g:s<64:=by omega
 have b:0<(2:Int)^s:=bG (by decide)
 have j:=W7 (s:=s) (by omega)
 have c:M0 t=64-s:=by omega
 have n:(t:Int)+1<=2^(64-s):=by
  rw [<- c]
  have:((t+1:Nat):Int)<=((2^M0 t:Nat):Int):=by omega
  simpa using this
 have l:(2:Int)^(63-s)<=t:=by
  have:((2^(M0 t-1):Nat):Int)<=((t:Nat):Int):=by omega
  rw [show M0 t-1=63-s by omega] at this
  simpa using this
 have e:(2:Int)^s*2^(63-s)=9223372036854775808:=by
  rw [<- aW,show s+(63-s)=63 by omega];decide
 have i:=D4 (B:=b64) (by decide) k
 refine ⟨g,?_,?_⟩
 ·have w:val b64 ys*2^s<((t:Int)+1)*b64^k*2^s:=bI d b
  have u:((t:Int)+1)*b64^k*2^s=((t:Int)+1)*2^s*b64^k:=by grind
  have y:((t:Int)+1)*2^s*b64^k<=18446744073709551616*b64^k:=by
   apply aD _ (aL i)
   rw [<- j,aP (2^s)]
   exact aD n (aL b)
  have A:b64^(k+1)=18446744073709551616*b64^k:=by rw [aZ b64 k,aP]
  omega
 ·have z:(t:Int)*b64^k*2^s<=val b64 ys*2^s:=aD a (aL b)
  have w:9223372036854775808*b64^k<=(t:Int)*2^s*b64^k:=by
   apply aD _ (aL i)
   rw [<- e,aP (t:Int)]
   exact aG l (by omega)
  have u:(t:Int)*2^s*b64^k=(t:Int)*b64^k*2^s:=by grind
  omega
section
variable {h g:bJ} {K:VP} {A B:Option bN} {ac bc:Nat}
set_option maxHeartbeats 1000000 in
def A2m{D V a b:Int}{S sh dn dc vc bn bq:Nat}{pieces t46:Int}{DA VA:Option bN}(hS:B4 ((B4 (dF (B4 ((B4 (((bn:Nat):Int)+pieces))-(1:Int))) pieces))*pieces)=(S:Int))
 (hsh:C0 (B4 ((B4 ((64:Int)*(B4 ((S:Int)-((bn:Nat):Int)))))+t46))=(sh:Int)) (hS0:0<S) (hS2:S<=200000000) (hsh2:sh<=100000000000) (hb:h bq=none) (hD:Mw h DA dn D) (hdc:dn<=dc) (hdn:0<dn) (hdl:dn<=2000000000) (hV:Mw h VA S V) (hvc:S<=vc) (hVt:9223372036854775808*b64^(S-1)<=V)
 (hDa:D=a*2^sh) (hVb:V=b*2^sh)
 (hK:∀ A1 m1 c1 A2 m2 c2 h',h.le h'->m1<=c1->m2<=c2->Mw h' A1 m1 (a/b)->Mw h' A2 m2 (a%b)->K (.tuple #[.slice A1 m1 c1,.slice A2 m2 c2]) h'):
 Y5 prog bn K pieces t46 VA S vc DA dn dc (some ⟨bq,0,none⟩) (dn+S) (dn+S) (blk .u64 B7 h bq (aE (dn+S) 0)):=by
 have N:=hD.nonneg (by decide)
 have ak:=hD.lt (by decide)
 have H:=hV.lt (by decide)
 have q:0<V:=by have:=D4 (B:=b64) (by decide) (S-1);omega
 have X:0<(2:Int)^sh:=bG (by decide)
 have hQ:=D4 (B:=b64) (by decide) S
 unfold Y5
 simp only [hS,hsh]
 obtain ⟨nb,hnb⟩:∃ nb,nb=(dn-1)/S:=⟨_,rfl⟩
 have ai:nb*S<=dn-1:=by rw [hnb];exact Nat.div_mul_le_self _ _
 have aj:dn-1<nb*S+S:=by
  have F:=dV (dn-1) S
  have h2:=eG (dn-1) hS0
  rw [<- hnb,eI] at F
  omega
 have e1:B4 (B4 (dF (B4 ((dn:Int)-1)) (S:Int))*(S:Int))=((nb+1:Nat):Int)*S-S:=by
  rw [B5 (n:=(dn:Int)-1) (by omega) (by omega),show (dn:Int)-1=((dn-1:Nat):Int) by omega,<- cT,<- hnb]
  have:nb<=dn-1:=by rw [hnb];exact eV _ _
  have Z:(nb:Int)*(S:Int)=((nb*S:Nat):Int):=by simp
  rw [B5 (n:=(nb:Int)) (by omega) (by omega),Z,B5 (by omega) (by omega),eX,Int.add_mul,Z]
  omega
 refine ⟨fun l X=>∃ (j n c:Nat) (A:Option bN) (d:List Int) (r:Int) (g:bJ),l=[.slice A n c,I ((j:Int)*S-S)]/\h.le g/\j*S+d.length=dn+S/\Dig b64 d/\Win .u64 X g bq B7 (some ⟨bq,0,none⟩) [] (aE (j*S) 0++d) []/\Mw g A n r/\n<=c/\r=(D/b64^(j*S))%V/\val b64 d=(D/b64^(j*S))/V,fun l _=>(iAt l 1+S).toNat,⟨nb+1,0,0,none,aE (dn-1+1-nb*S) 0,0,h,by rw [e1],B0 h,?_,J7 (by decide) _,?_,Mag.zero,bD _,?_,?_⟩,?_⟩
 ·rw [bY,dK,dJ];omega
 ·rw [cU,show (nb+1)*S+(dn-1+1-nb*S)=dn+S by rw [dK,dJ];omega]
  exact Win.blk .u64 B7 hb _
 ·have:=D3 (B:=b64) (by decide) (show dn<=(nb+1)*S by rw [dK,dJ];omega)
  rw [bK N (by omega),fF]
 ·have:=D3 (B:=b64) (by decide) (show dn<=(nb+1)*S by rw [dK,dJ];omega)
  rw [bK N (by omega),Int.zero_ediv,Cm]
 rintro A1 n1 c1 st ax ⟨j,n,c,A',d,r,g,L,lg,u,G,w,Mr,ay,z,k⟩
 simp only [bO,cL,dB,and_true,true_and] at L
 obtain ⟨⟨rfl,rfl,rfl⟩,rfl⟩:=L
 refine B3 (fun F=>?_) (fun F=>?_)
 ·obtain ⟨i,rfl⟩:∃ i,j=i+1:=⟨j-1,by
   rcases j with _|j
   ·simp at F;omega
   ·rfl⟩
  obtain ⟨e,he⟩:∃ e,e=i*S:=⟨_,rfl⟩
  have O:(i+1)*S=e+S:=by rw [he,dK,dJ]
  have ad:((i+1:Nat):Int)*(S:Int)-(S:Int)=(e:Int):=by rw [<- bU,O];omega
  rw [O] at u w z k
  rw [ad]
  have az:=D4 (B:=b64) (by decide) e
  refine w.call (V4 (hD.mono lg) hdc ?_)
  intro A2 n2 c2 k2 an M2 h2 w2
  refine ⟨_,_,_,rfl,w2.call (Dt M2 k2 (by omega) ?_)⟩
  intro A3 n3 c3 k3 ag al M3 Z w3
  have av:=Mr.nonneg (by decide)
  have aw:r<V:=by rw [z];exact aJ _ q
  have am:n1<=S:=Mr.len_le (by decide) (by omega)
  refine ⟨_,_,_,rfl,w3.call (Fm Mr M3 ag (by omega) ?_)⟩
  intro A4 n4 c4 g4 l4 k4 M4 h4 w4
  have ah:D/b64^(e+S)=D/b64^e/b64^S:=by rw [aW,dQ (by omega)]
  rw [ah] at z k
  have dm:=aK (D/b64^e) (b64^S)
  have a0:=aR (D/b64^e) (b:=b64^S) (by omega)
  have ao:=aJ (D/b64^e) hQ
  generalize hD1:D/b64^e=D1 at *
  have s:r*b64^S+D1%b64^S<b64^S*V:=by
   have t1:b64^S*(r+1)<=b64^S*V:=aG (by omega) (by omega)
   rw [cI,aP] at t1
   omega
  have au:n4<=S+S:=M4.len_le (by decide) (by
   have t1:b64^S*V<b64^S*b64^S:=bX H hQ
   rw [aW];omega)
  have M:=Heap.le_trans lg l4
  refine ⟨_,_,_,rfl,w4.call (B7v S (bD _) M4 (hV.mono M) k4 hvc (by omega) hS2 hS0 hVt s ?_)⟩
  intro A5 n5 c5 A6 n6 c6 g6 l6 k5 k6 M5 M6 h6 T
  have ar:n5<=S:=M5.len_le (by decide) (bC q s)
  refine ⟨_,_,_,_,_,_,rfl,⟨by omega,by omega⟩,?_⟩
  rw [aC]
  have af:aE (e+S) (0:Int)++d=aE e 0++(aE S 0++d):=by rw [<- bF,cU]
  rw [af] at T
  have ap:(aE e (0:Int)++(aE S 0++d)).length=dn+S:=by simp only [aN,bY];omega
  have w7:=T.sub (l:=e) (m:=dn+S) (c:=dn+S) (by omega) (by omega) (by omega)
  have e7:((aE e (0:Int)++(aE S 0++d)).drop e).take (dn+S-e)=aE S 0++d:=by
   rw [dD (by simp),aM (by simp only [aN,bY];omega)]
  rw [e7] at w7
  obtain ⟨y,J,ae,ab,a1,C⟩:=M5
  refine Ay K9 w7 (by simp only [aN,bY];omega) (ae.mono T.le) J (by simp only [aN,bY];omega) ?_
  intro h8 w8
  rw [cZ (by simp;omega),bA,<- bF y] at w8
  have o:(y++aE (S-y.length) (0:Int)).length=S:=by simp;omega
  have w9:=T.whole (l:=e) (m:=dn+S) (by omega) (by omega) (by rw [aN,o];omega) w8
  rw [cP (by simp),aX (show (aE e (0:Int)++(aE S 0++d)).length<=dn+S by omega),cC] at w9
  have e8:B4 ((e:Int)-(S:Int))=((i:Nat):Int)*S-S:=by
   rw [B5 (by omega) (by omega),he,bU]
  have aq:=aK (r*b64^S+D1%b64^S) V
  have E:=aR (r*b64^S+D1%b64^S) (b:=V) (by omega)
  have R:=aJ (r*b64^S+D1%b64^S) q
  have aa:=aK (D1/b64^S) V
  rw [<- z,<- k] at aa
  obtain ⟨f1,f2⟩:=Xm (x:=D1) (a:=(r*b64^S+D1%b64^S)%V) (b:=val b64 y+b64^S*val b64 d) (p:=V) (by
   rw [C]
   generalize (r*b64^S+D1%b64^S)%V=r2 at *
   generalize hq2:(r*b64^S+D1%b64^S)/V=q2 at *
   generalize D1%b64^S=bl at *
   generalize D1/b64^S=D2 at *
   generalize b64^S=Q at *
   generalize val b64 d=W at *
   grind) E R
  refine ⟨_,rfl,?_⟩
  rw [e8]
  refine ⟨⟨i,_,_,_,(y++aE (S-y.length) 0)++d,_,g6,rfl,Heap.le_trans M l6,?_,?_,?_,M6,k6,?_,?_⟩,?_⟩
  ·rw [aN,o];omega
  ·exact (ab.append (J7 (by decide) _)).append G
  ·rw [<- he];exact w9
  ·rw [<- he,hD1,f2]
  ·rw [<- he,hD1,f1,E8,o,Bf]
  ·simp only [iAt,aO,aH]
   rw [<- bU,<- he]
   omega
 ·obtain rfl:j=0:=by
   rcases j with _|j
   ·rfl
   ·rw [<- bU,dK,dJ] at F
    omega
  rw [fJ,List.replicate_zero,cA] at w
  rw [fJ,fP,Int.ediv_one] at z k
  rw [fJ,fK] at u
  have ac:0<b:=by
   by_cases hc:0<b
   ·exact hc
   ·have:=aD (show b<=0 by omega) (aL X);omega
  obtain ⟨f1,f2⟩:=Xm (x:=D) (a:=(a%b)*2^sh) (b:=a/b) (p:=V) (by
   have:=aK a b
   rw [hDa,hVb]
   conv=>rhs;rw [<- this]
   grind) (aQ (aR _ (by omega)) (by omega)) (by rw [hVb];exact bI (aJ _ ac) X)
  refine Z4 w.sl G u.symm k (by omega) (by omega) ?_
  intro m2 k2 M2
  refine ⟨_,_,_,rfl,?_⟩
  refine Ei (Mr.mono w.le) (by have:=Mr.len_le (j:=S) (by decide) (by have:=aJ D q;omega);omega) (by omega) ?_
  intro A3 n3 c3 Z l3 k3 M3
  rw [z,f2,eE _ (by omega)] at M3
  rw [f1] at M2
  exact ⟨_,_,_,rfl,hK _ _ _ _ _ _ _ (Heap.le_trans lg (Heap.le_trans w.le l3)) k2 k3 (M2.mono l3) M3⟩
set_option maxHeartbeats 1000000 in
def Mm{x y:Int}{an bn:Nat}(ma:Mw h A an x)(mb:Mw h B bn y)(ha:an<=ac)(hbc:bn<=bc)(hl:an<=800000000)(hl2:bn<=100000000)(ha0:0<an)(hb0:0<bn)
 (hK:∀ A1 m1 c1 A2 m2 c2 h',h.le h'->m1<=c1->m2<=c2->Mw h' A1 m1 (x/y)->Mw h' A2 m2 (x%y)->K (.tuple #[.slice A1 m1 c1,.slice A2 m2 c2]) h'):aY prog Au #[.slice A an ac,.slice B bn bc] h K:=by
 have ai:=ma.nonneg (by decide)
 have ah:=ma.len_zero (by decide)
 have m:=ma.lt (by decide)
 refine Ou _ _ _ _ _ _ ?_
 unfold Ky Gc
 refine ⟨fun l hp=>hp=h/\∃ p:Nat,l=[I p]/\0<p/\p<=bn,fun l _=>bn-(iAt l 0).toNat,⟨rfl,1,rfl,by omega,by omega⟩,?_⟩
 rintro z hp ⟨rfl,p,O,u,af⟩
 obtain rfl:=sI1 O
 have e1:B4 (dF (B4 (B4 ((bn:Int)+(p:Int))-1)) (p:Int))=(((bn+p-1)/p:Nat):Int):=by
  rw [B5 (n:=(bn:Int)+p) (by omega) (by omega),B5 (n:=(bn:Int)+p-1) (by omega) (by omega),show (bn:Int)+p-1=((bn+p-1:Nat):Int) by omega,<- cT]
  have:(bn+p-1)/p<=bn+p-1:=eV _ _
  generalize (bn+p-1)/p=q at *
  rw [B5 (by omega) (by omega)]
 refine B3 (fun d=>by omega) (fun _=>?_)
 obtain ⟨S,hS⟩:∃ S,S=(bn+p-1)/p*p:=⟨_,rfl⟩
 have ab:bn<=S/\S<=bn+p-1:=by
  have d:=dV (bn+p-1) p
  have C:=eG (bn+p-1) u
  rw [eI,<- hS] at d
  omega
 have X:B4 ((B4 (dF (B4 (B4 ((bn:Int)+(p:Int))-1)) (p:Int)))*(p:Int))=(S:Int):=by
  rw [e1,<- bU,<- hS,B5 (by omega) (by omega)]
 refine B3 (fun d=>?_) (fun d=>?_)
 ·rw [e1] at d
  have C:80<=(bn+p-1)/p:=by omega
  rw [Nat.le_div_iff_mul_le u] at C
  have R:B4 ((p:Int)*2)=((p*2:Nat):Int):=by rw [B5 (by omega) (by omega)];omega
  rw [R]
  exact ⟨⟨rfl,_,rfl,by omega,by omega⟩,by simp only [iAt,aH];omega⟩
 ·refine B3 (fun d=>by omega) (fun _=>?_)
  obtain ⟨k,hk⟩:∃ k,bn=k+1:=⟨bn-1,by omega⟩
  have N:=mb
  obtain ⟨a,J,sy,W,ny,rfl⟩:=mb
  have c:a.length=k+1:=by omega
  have gt:=J5 W k
  have G:=A6p c ny
  have R:B4 ((bn:Int)-1)=(k:Int):=by rw [B5 (by omega) (by omega)];omega
  rw [R]
  subst J
  refine sy.load rfl (by omega) (by omega) ?_
  rw [aC]
  obtain ⟨t,ht⟩:∃ t:Nat,a.getD k 0=t:=⟨(a.getD k 0).toNat,by omega⟩
  rw [ht] at gt G ⊢
  refine O4 (by omega) ⟨_,rfl,?_⟩
  obtain ⟨s,hs⟩:∃ s,s=64-M0 t:=⟨_,rfl⟩
  rw [<- hs]
  obtain ⟨aa,T,Q⟩:=Ud W c ht (by omega) hs
  simp only [X]
  obtain ⟨sh,hsh⟩:∃ sh,sh=64*(S-a.length)+s:=⟨_,rfl⟩
  have e4:C0 (B4 (B4 (64*B4 ((S:Int)-(a.length:Int)))+(s:Int)))=(sh:Int):=by
   rw [B5 (n:=(S:Int)-(a.length:Int)) (by omega) (by omega),B5 (n:=64*((S:Int)-(a.length:Int))) (by omega) (by omega),B5 (by omega) (by omega),C2 (by omega) (by omega)]
   omega
  simp only [e4]
  have g:(2:Int)^sh=2^s*b64^(S-a.length):=by rw [hsh,aW,Fi,aP]
  have i:=D4 (B:=b64) (by decide) (S-a.length)
  have ae:0<(2:Int)^s:=bG (by decide)
  have o:0<(2:Int)^sh:=bG (by decide)
  have ag:val b64 a*2^sh=val b64 a*2^s*b64^(S-a.length):=by rw [g,cD]
  have L:val b64 a*2^sh<b64^S:=by
   have w:val b64 a*2^s*b64^(S-a.length)<b64^(k+1)*b64^(S-a.length):=bI T i
   rw [<- aW,show k+1+(S-a.length)=S by omega] at w
   omega
  have F:9223372036854775808*b64^(S-1)<=val b64 a*2^sh:=by
   have w:9223372036854775808*b64^k*b64^(S-a.length)<=val b64 a*2^s*b64^(S-a.length):=aD Q (aL i)
   rw [cD,<- aW,show k+(S-a.length)=S-1 by omega] at w
   omega
  refine S0 N hbc (by omega) (by omega) ?_
  intro A1 b c1 d l1 k1 M1
  refine ⟨_,_,_,rfl,?_⟩
  have H:b=S:=by
   have q1:=M1.len_le (by decide) L
   have q2:=M1.lt (by decide)
   by_cases hc:b=S
   ·exact hc
   ·have:=D3 (B:=b64) (by decide) (show b<=S-1 by omega)
    have:=D4 (B:=b64) (by decide) (S-1)
    omega
  subst H
  refine S0 (ma.mono l1) ha (by omega) (by omega) ?_
  intro A2 r c2 C Z k2 M2
  refine ⟨_,_,_,rfl,?_⟩
  have ad:r<=an+(1+(b-a.length)):=M2.len_le (by decide) (by
   have w:x*2^sh<b64^an*2^sh:=bI m o
   have t2:(2:Int)^sh<=b64^(1+(b-a.length)):=by
    rw [g,aW]
    apply aD _ (aL i)
    have:=D3 (B:=2) (by decide) (show s<=64 by omega)
    have e:(2:Int)^64=18446744073709551616:=by decide
    show (2:Int)^s<=b64^1
    rw [aZ,fP]
    show (2:Int)^s<=1*18446744073709551616
    omega
   have t3:b64^an*2^sh<=b64^an*b64^(1+(b-a.length)):=aG t2 (aL (D4 (by decide) an))
   rw [aW b64 an]
   omega)
  have j:0<r:=by
   rcases Nat.eq_zero_or_pos r with E|E
   ·have:=(M2.len_zero (by decide)).2 E
    rcases Int.mul_eq_zero.1 this with h3|h3<;>omega
   ·exact E
  have e5:B4 ((r:Int)+(b:Int))=((r+b:Nat):Int):=by rw [B5 (by omega) (by omega)];omega
  rw [e5]
  refine P2 K9 (by omega) (by omega) (by omega) ?_
  intro bq M
  rw [aC]
  refine ⟨_,_,_,rfl,?_⟩
  refine B3 (fun d=>by omega) (fun _=>?_)
  refine A2m (D:=x*2^sh) (V:=val b64 a*2^sh) (sh:=sh) (S:=b) X e4 (by omega) (by omega) (by omega) M M2 k2 j (by omega) (M1.mono Z) k1 F rfl rfl ?_
  intro A3 n3 c3 A4 n4 c4 h4 l4 k3 k4 M3 M4
  exact hK _ _ _ _ _ _ _ (Heap.le_trans l1 (Heap.le_trans Z l4)) k3 k4 M3 M4
def Q7{x y:Int}{an bn:Nat}(ma:Mw h A an x)(mb:Mw h B bn y)(ha:an<=ac)(hbc:bn<=bc)(hy:y≠0)(hl:an<=800000000)(hl2:bn<=100000000)
 (hK:∀ A1 m1 c1 A2 m2 c2 h',h.le h'->m1<=c1->m2<=c2->Mw h' A1 m1 (x/y)->Mw h' A2 m2 (x%y)->K (.tuple #[.slice A1 m1 c1,.slice A2 m2 c2]) h'):aY prog L5 #[.slice A an ac,.slice B bn bc] h K:=by
 refine Ry _ _ _ _ _ _ ?_
 unfold Oc
 have a:aY prog G7 #[.slice A an ac,.slice B bn bc] h (fun r e=>∃ (t22aA:Option bN) (t22an:Nat) (t22ac:Nat) (t22bA:Option bN) (t22bn:Nat) (t22bc:Nat),r= .tuple #[.slice t22aA t22an t22ac,.slice t22bA t22bn t22bc]/\K (.tuple #[.slice t22aA t22an t22ac,.slice t22bA t22bn t22bc]) e):=by
  refine Cy ma mb ha hbc hy (by omega) (by omega) ?_
  intro A1 m1 c1 A2 m2 c2 h' l c b M1 M2
  exact ⟨_,_,_,_,_,_,rfl,hK _ _ _ _ _ _ _ l c b M1 M2⟩
 refine B3 (fun g=>B3 (fun d=>?_) (fun _=>a)) (fun _=>a)
 rw [B5 (by omega) (by omega)] at d
 refine Mm ma mb ha hbc hl hl2 (by omega) (by omega) ?_
 intro A1 m1 c1 A2 m2 c2 h' l c b M1 M2
 exact ⟨_,_,_,_,_,_,rfl,hK _ _ _ _ _ _ _ l c b M1 M2⟩
end
def TZ(x k:Nat):Prop:=∃ m,x=2^k*(2*m+1)
def TZ.ex:∀ {x:Nat},x≠0->∃ k,TZ x k:=by
 intro x
 induction x using Nat.strongRecOn with
 | _ x ih=>
  intro h
  rcases Nat.mod_two_eq_zero_or_one x with b|b
  ·obtain ⟨k,m,a⟩:=ih (x/2) (by omega) (by omega)
   refine ⟨k+1,m,?_⟩
   rw [Nat.pow_succ,eI (2^k),eF,<- a];omega
  ·exact ⟨0,x/2,by omega⟩
def TZ.lt{x k n:Nat}(h:TZ x k)(hx:x<2^n):k<n:=by
 obtain ⟨m,rfl⟩:=h
 have b:2^k*1<=2^k*(2*m+1):=Nat.mul_le_mul_left _ (by omega)
 exact (Nat.pow_lt_pow_iff_right (a:=2) (by decide)).1 (by omega)
def A7a{a u v:Nat}:(2^a*u) ||| (2^a*v)=2^a*(u ||| v):=by
 apply Nat.eq_of_testBit_eq
 intro i
 simp only [Nat.testBit_or,fG,Bool.and_or_distrib_left]
def B36{u v:Nat}(h:u%2=1\/v%2=1):(u ||| v)%2=1:=by simpa using h
def TZ.or'{x y a b:Nat}(hx:TZ x a)(hy:TZ y b)(hab:a<=b):TZ (x ||| y) a/\TZ (y ||| x) a:=by
 obtain ⟨m,rfl⟩:=hx
 obtain ⟨n,rfl⟩:=hy
 obtain ⟨d,rfl⟩:∃ d,b=a+d:=⟨b-a,by omega⟩
 rw [Nat.pow_add,eF,A7a,A7a]
 have e:=B36 (u:=2*m+1) (v:=2^d*(2*n+1)) (.inl (by omega))
 have c:=B36 (u:=2^d*(2*n+1)) (v:=2*m+1) (.inr (by omega))
 exact ⟨⟨_/2,by rw [<- dV (_ ||| _) 2,e]⟩,⟨_/2,by rw [<- dV (_ ||| _) 2,c]⟩⟩
def TZ.or{x y a b:Nat}(hx:TZ x a)(hy:TZ y b):TZ (x ||| y) (min a b):=by
 by_cases h:a<=b
 ·rw [aI h];exact (hx.or' hy h).1
 ·rw [dN (by omega)];exact (hy.or' hx (by omega)).2
def TZ.bit{x k:Nat}(h:TZ x k)(hx:x<2^64):x &&& (2^64-x)=2^k:=by
 obtain ⟨m,rfl⟩:=h
 have j:0<2^k:=cY (by decide)
 have e:2^k*(2*m+1)=2^k*(2*m)+(2^k-1)+1:=by rw [Nat.mul_add,eB];omega
 apply Nat.eq_of_testBit_eq
 intro i
 rw [Nat.testBit_and]
 have g:(2^64-2^k*(2*m+1)).testBit i=(decide (i<64) && !(2^k*(2*m)+(2^k-1)).testBit i):=by
  rw [e];exact Nat.testBit_two_pow_sub_succ (by omega) i
 rw [g,Nat.testBit_two_pow_mul_add _ (by omega),fG,Nat.testBit_two_pow]
 by_cases b:i<k
 ·simp [b,show ¬ i>=k by omega,show ¬ k=i by omega]
 ·by_cases c:i=k
  ·subst c
   have a:i<64:=TZ.lt ⟨m,rfl⟩ hx
   simp [a,Nat.testBit_zero]
  ·obtain ⟨d,hd⟩:∃ d,i-k=d+1:=⟨i-k-1,by omega⟩
   rw [iN b,hd,Nat.testBit_succ,Nat.testBit_succ,show (2*m+1)/2=m by omega,show 2*m/2=m by omega]
   simp only [show ¬ k=i by omega,decide_false]
   cases m.testBit d<;>simp
def Vt{o k:Nat}(h:o%2=1):Nat.Coprime (2^k) o:=Nat.Coprime.pow_left k (by unfold Nat.Coprime;rw [Nat.gcd_rec,h];rfl)
def B59{x y a b m:Nat}(hx:x=2^a*(2*m+1))(hy:TZ y b):cX x y=2^(min a b)*cX (2*m+1) y:=by
 obtain ⟨n,rfl⟩:=hy
 subst hx
 have c:cX (2*m+1) (2^b*(2*n+1))=cX (2*m+1) (2*n+1):=cN (2*n+1) (Vt (by omega))
 rw [c]
 by_cases h:a<=b
 ·obtain ⟨d,rfl⟩:∃ d,b=a+d:=⟨b-a,by omega⟩
  rw [aI h,Nat.pow_add,eF,Nat.gcd_mul_left,cN _ (Vt (by omega))]
 ·obtain ⟨d,rfl⟩:∃ d,a=b+d:=⟨a-b,by omega⟩
  rw [dN (by omega),Nat.pow_add,eF,Nat.gcd_mul_left,Nat.Coprime.gcd_mul_left_cancel _ (Vt (by omega))]
def Yq(k:Nat):Nat:=(2^k*285870213051353865%18446744073709551616)/2^58
def Gtz(h:bJ):Prop:=∀ k,k<64->h.cell? (eD ⟨0,0,none⟩ (Yq k*1))=some (Y k)
def Gtz.mono{h h':bJ}(g:Gtz h)(l:h.le h'):Gtz h':=fun k a=>C4 l (g k a)
section
variable {h g:bJ} {K:VP} {A B:Option bN} {ac bc:Nat}
def Ic{x k:Nat}(gl:Gtz h)(tz:TZ x k)(hx:x<18446744073709551616)(hK:K (I k) h):aY prog I7 #[U x] h K:=by
 have d:=tz.lt (n:=64) hx
 have g:x≠0:=by
  obtain ⟨m,rfl⟩:=tz
  have:0<2^k:=cY (by decide)
  have:=Nat.mul_pos this (show 0<2*m+1 by omega)
  omega
 refine Ja _ ?_
 unfold Ep
 refine E7 (fun e=>by omega) (fun _=>?_)
 have a:C0 (0-(x:Int))=((2^64-x:Nat):Int):=by
  rw [F3];omega
 have c:So .u64 (x:Int) ((2^64-x:Nat):Int)=((2^k:Nat):Int):=by
  rw [A90 (by omega) (by omega),aC,aC,tz.bit hx]
 have b:dI (C0 (((2^k:Nat):Int)*285870213051353865)) (2^(min ((58:Int)).toNat 64))=((Yq k:Nat):Int):=by
  show dI _ (2^(min 58 64))=_
  rw [B0j (by decide),F3]
  unfold Yq
  rw [dO,eS,bU]
  rfl
 rw [a,c,b,aC]
 have i:Yq k<64:=by
  unfold Yq
  have:(2^k*285870213051353865)%18446744073709551616<18446744073709551616:=eG _ (by decide)
  exact Nat.div_lt_of_lt_mul (by omega)
 refine ⟨⟨by omega,by omega⟩,_,gl k d,?_⟩
 rw [B5 (by omega) (by omega)]
 exact hK
def A01{x y:Nat}(gl:Gtz h)(hx:x<18446744073709551616)(hy:y<18446744073709551616)(hK:K (U (cX x y:Nat)) h):aY prog Mc #[U x,U y] h K:=by
 refine A2r _ _ ?_
 unfold A45
 refine E7 (fun e=>?_) (fun e=>?_)
 ·obtain rfl:x=0:=by omega
  rw [A5b (by omega) (by omega)]
  simpa using hK
 refine E7 (fun G=>?_) (fun G=>?_)
 ·obtain rfl:y=0:=by omega
  rw [A5b (by omega) (by omega)]
  simpa using hK
 obtain ⟨a,k⟩:=TZ.ex (x:=x) (by omega)
 obtain ⟨b,o⟩:=TZ.ex (x:=y) (by omega)
 have V:=k.lt (n:=64) hx
 have S:=o.lt (n:=64) hy
 rw [A5b (by omega) (by omega),aC,aC]
 have r:x ||| y<18446744073709551616:=Nat.or_lt_two_pow (n:=64) hx hy
 refine Ic gl (k.or o) r ⟨_,rfl,?_⟩
 refine Ic gl k hx ⟨_,rfl,?_⟩
 refine B3 (fun j=>by omega) (fun _=>?_)
 obtain ⟨m,q⟩:=k
 have C:=B59 q o
 have J:dI (x:Int) (2^(min ((a:Int)).toNat 64))=((2*m+1:Nat):Int):=by
  rw [aC,B0j (by omega),show ((2:Int)^a)=((2^a:Nat):Int) by simp,<- dO,q,fH _ (cY (by decide))]
 rw [J]
 have A:2*m+1<=x:=by
  rw [q];exact fL _ (cY (by decide))
 refine ⟨fun l O=>O=h/\∃ u v:Nat,l=[U u,U v]/\u%2=1/\u<18446744073709551616/\v<18446744073709551616/\cX u v=cX (2*m+1) y,fun l _=>(iAt l 0+iAt l 1).toNat,⟨rfl,2*m+1,y,rfl,by omega,by omega,hy,rfl⟩,?_⟩
 rintro R Q H ⟨rfl,u,v,z,F,N,i,d⟩
 simp only [bO,dB,and_true,true_and] at z
 obtain ⟨rfl,rfl⟩:=z
 refine J9 (fun j=>?_) (fun j=>?_)
 ·obtain ⟨c,p⟩:=TZ.ex (x:=v) (by omega)
  have T:=p.lt (n:=64) i
  refine Ic gl p i ⟨_,rfl,?_⟩
  refine B3 (fun j=>by omega) (fun _=>?_)
  obtain ⟨n,w⟩:=p
  have E:dI (v:Int) (2^(min ((c:Int)).toNat 64))=((2*n+1:Nat):Int):=by
   rw [aC,B0j (by omega),show ((2:Int)^c)=((2^c:Nat):Int) by simp,<- dO,w,fH _ (cY (by decide))]
  have B:2*n+1<=v:=by
   rw [w];exact fL _ (cY (by decide))
  have g:cX u (2*n+1)=cX u v:=by
   rw [w,cN _ (Vt F)]
  rw [E]
  refine B3 (fun D=>?_) (fun D=>?_)
  ·have s:C0 ((u:Int)-((2*n+1:Nat):Int))=((u-(2*n+1):Nat):Int):=by rw [C2 (by omega) (by omega)];omega
   rw [s]
   refine ⟨⟨rfl,_,_,rfl,by omega,by omega,by omega,?_⟩,?_⟩
   ·rw [fM (by omega),fN,g,d]
   ·simp only [iAt,aH,aO];omega
  ·have s:C0 (((2*n+1:Nat):Int)-(u:Int))=((2*n+1-u:Nat):Int):=by rw [C2 (by omega) (by omega)];omega
   rw [s]
   refine ⟨⟨rfl,_,_,rfl,by omega,by omega,by omega,?_⟩,?_⟩
   ·rw [fM (by omega),g,d]
   ·simp only [iAt,aH,aO];omega
 ·refine B3 (fun j=>by omega) (fun _=>?_)
  obtain rfl:v=0:=by omega
  rw [Nat.gcd_zero_right] at d
  rw [aC,aI (show min a b<=64 by omega)]
  have L:(u:Int)*2^(min a b)=((cX x y:Nat):Int):=by
   rw [C,<- d,bU,aP];simp
  have M:cX x y<=x:=Nat.le_of_dvd (by omega) (Nat.gcd_dvd_left x y)
  rw [L,C2 (by omega) (by omega)]
  exact hK
end
def A6q{xs:List Int}(d:Dig b64 xs){k s:Nat}(hl:xs.length<=k+2)(hs:s<=64):val b64 xs/(b64^k*2^(64-s))=xs.getD (k+1) 0*2^s+xs.getD k 0/2^(64-s):=by
 have c:=C6 b64 xs (k+1)
 have e:=C6 b64 xs k
 rw [aM (show xs.length<=k+1+1 by omega)] at c
 have j:=D4 (B:=b64) (by decide) k
 have i:0<(2:Int)^(64-s):=bG (by decide)
 have b:=W7 (s:=s) hs
 have l:=C1 (by decide) (d.take k)
 have m:=N5 (by decide) (d.take k)
 have n:=D3 (B:=b64) (by decide) (show (xs.take k).length<=k by rw [aF];omega)
 rw [<- dQ (aL j)]
 have g:val b64 xs/b64^k=xs.getD k 0+18446744073709551616*xs.getD (k+1) 0:=by
  refine (Xm (a:=val b64 (xs.take k)) ?_ l (by omega)).1
  rw [c,e,aZ]
  show _=val b64 (xs.take k)+_+b64^k*18446744073709551616*_
  grind
 rw [g,<- b,aP (2^s),cD,dZ _ _ (by omega),aP (2^s)]
 omega
section
variable {h g:bJ} {K:VP} {A B:Option bN} {ac bc:Nat}
def B68(a b u0 u1 v0 v1:Int)(odd:Bool):Prop:=(0<=u0/\u0<18446744073709551616)/\(0<=u1/\u1<18446744073709551616)/\(0<=v0/\v0<18446744073709551616)/\(0<=v1/\v1<18446744073709551616)/\(v0≠0->Leh a b u0 v0 u1 v1 (Ih a b u0 v0 odd) (Ig a b u1 v1 odd))
def B1a{a b F S W t20 t26 t33:Int}(hF:F=bor .u64 (C0 (t26*2^(min (C0 t20).toNat 64))) (dI t33 (2^(min (C0 ((64:Int)-(C0 t20))).toNat 64))))(hW:0<W)(hFa:F=a/W)(hSb:S=b/W)(hb0:0<=b)(hba:b<=a)(hF64:F<18446744073709551616)
 (hK:∀ u0 u1 v0 v1 odd,B68 a b u0 u1 v0 v1 odd->K (.agg #[U u0,U u1,U v0,U v1,.bool odd]) h):Gb prog K t20 t26 t33 S h:=by
 have da:=aK a W
 have db:=aK b W
 have u:=aR a (b:=W) (by omega)
 have z:=aJ a hW
 have x:=aR b (b:=W) (by omega)
 have s:=aJ b hW
 have y:0<=S:=by rw [hSb];exact bM hb0 (by omega)
 have w:S<=F:=by rw [hSb,hFa];exact Int.ediv_le_ediv hW hba
 unfold Gb
 rw [<- hF]
 refine ⟨fun l C=>C=h/\∃ (first c g d u0 u1 v0 v1:Int) (odd:Bool),l=[U first,U c,U g,U d,U u0,U u1,U v0,U v1,.bool odd]/\LS F S first c u0 v0 u1 v1 g d odd/\B68 a b u0 u1 v0 v1 odd/\g<=F/\d<=(if F=0 then 1 else F),fun l _=>(iAt l 1).toNat,⟨rfl,_,_,_,_,_,_,_,_,_,rfl,LS.init y w,⟨by omega,by omega,by omega,by omega,fun e=>absurd rfl e⟩,by omega,by split<;>omega⟩,?_⟩
 rintro first c g d u0 u1 v0 v1 odd C ⟨rfl,q,p,H,X,Z,aa,R,T,D,A,m,r,V,M⟩
 simp only [bO,dB,Value.bool.injEq,and_true,true_and] at A
 obtain ⟨rfl,rfl,rfl,rfl,rfl,rfl,rfl,rfl,rfl⟩:=A
 have B:=m.v2pos
 have j:=m.ord
 have O:=m.hF
 refine B3 (fun h1=>?_) (fun _=>hK _ _ _ _ _ r)
 have o:1<=c:=by omega
 have J:=m.bound2 o
 have E:first<=F:=by
  have t1:1*first<=d*first:=aD (by omega) (by omega)
  have t2:=aQ (show 0<=v1 by omega) j.1
  omega
 rw [C2 (n:=first-c) (by omega) (by omega),C2 (n:=v1+d) (by omega) (by omega)]
 refine B3 (fun h2=>?_) (fun _=>hK _ _ _ _ _ r)
 refine B3 (fun e=>by omega) (fun _=>?_)
 refine B3 (fun e=>by omega) (fun _=>?_)
 rw [bW (by omega),bB (by omega)]
 have i:=m.step (by omega) (by omega)
 have Q:=i.bound o
 have k:0<=first/c:=bM (by omega) (by omega)
 have L:first/c<=first:=dP _ (by omega)
 have G:=aQ k (show 0<=g by omega)
 have N:=aQ k (show 0<=d by omega)
 rw [C2 (n:=first/c) (by omega) (by omega),C2 (n:=first/c*g) (by omega) (by omega),C2 (n:=first/c*d) (by omega) (by omega),C2 (n:=u1+first/c*g) (by omega) (by omega),C2 (n:=v1+first/c*d) (by omega) (by omega)]
 refine ⟨⟨rfl,_,_,_,_,_,_,_,_,_,rfl,i,⟨⟨by omega,r.2.1.2⟩,⟨by omega,by omega⟩,⟨by omega,r.2.2.2.1.2⟩,⟨by omega,by omega⟩,fun e=>i.leh e hW (al:=a%W) (bl:=b%W) ?_ ?_ ⟨u,z⟩ ⟨x,s⟩⟩,by omega,by split<;>omega⟩,?_⟩
 ·rw [hFa,aP];omega
 ·rw [hSb,aP];omega
 ·have:=aJ first (show 0<c by omega)
  have:=aR first (show c≠0 by omega)
  simp only [iAt,aO,aH];omega
set_option maxHeartbeats 1000000 in
def Vz{a b:Int}{an bn:Nat}(ma:Mw h A an a)(mb:Mw h B bn b)(hba:b<=a)(hb2:2<=bn)(hl:an<=1000000000)
 (hK:∀ u0 u1 v0 v1 odd,B68 a b u0 u1 v0 v1 odd->K (.agg #[U u0,U u1,U v0,U v1,.bool odd]) h):aY prog Io #[.slice A an ac,.slice B bn bc] h K:=by
 have Q:=mb.nonneg (by decide)
 have ae:bn<=an:=mb.len_le (by decide) (cJ hba (ma.lt (by decide)))
 obtain ⟨k,rfl⟩:∃ k,an=k+2:=⟨an-2,by omega⟩
 obtain ⟨xs,j,W,C,nx,rfl⟩:=ma
 obtain ⟨g,n,R,H,ny,rfl⟩:=mb
 refine A0g _ _ _ _ _ _ ?_
 unfold A0h
 have e1:B4 (((k+2:Nat):Int)-1)=((k+1:Nat):Int):=by rw [B5 (by omega) (by omega)];omega
 have e2:B4 (((k+2:Nat):Int)-2)=(k:Int):=by rw [B5 (by omega) (by omega)];omega
 simp only [e1,e2]
 have gt:=J5 C (k+1)
 have V:=J5 C k
 have M:=A6p (m:=k+1) j.symm nx
 obtain ⟨t,ht⟩:∃ t:Nat,xs.getD (k+1) 0=t:=⟨(xs.getD (k+1) 0).toNat,by omega⟩
 rw [j]
 refine W.load rfl (by omega) (by omega) ?_
 rw [aC,ht]
 rw [ht] at gt M
 refine O4 (by omega) ⟨_,rfl,?_⟩
 obtain ⟨s,hs⟩:∃ s,s=64-M0 t:=⟨_,rfl⟩
 rw [<- hs]
 obtain ⟨Z,y,ad⟩:=Ud C j.symm ht (by omega) hs
 refine W.load rfl (by omega) (by omega) ?_
 simp only [aC,ht]
 have i:C0 (s:Int)=s:=C2 (by omega) (by omega)
 have c:C0 (64-(s:Int))=((64-s:Nat):Int):=by rw [C2 (by omega) (by omega)];omega
 refine B3 (fun e=>by rw [i] at e;omega) (fun _=>?_)
 refine W.load rfl (by omega) (by omega) ?_
 simp only [aC]
 refine B3 (fun e=>by rw [i,c] at e;omega) (fun _=>?_)
 have N:0<(2:Int)^s:=bG (by decide)
 have x:0<(2:Int)^(64-s):=bG (by decide)
 have o:=W7 (s:=s) (by omega)
 have T:=D4 (B:=b64) (by decide) k
 have O:0<b64^k*2^(64-s):=Int.mul_pos T x
 have r:=A6q C (k:=k) (s:=s) (by omega) (by omega)
 have d:=A6q H (k:=k) (s:=s) (by omega) (by omega)
 have p:val b64 xs/(b64^k*2^(64-s))<18446744073709551616:=by
  apply bC O
  have G:18446744073709551616*(b64^k*2^(64-s))*2^s=18446744073709551616*b64^k*(2^s*2^(64-s)):=by grind
  rw [o] at G
  have S:b64^(k+1+1)=18446744073709551616*b64^k*18446744073709551616:=by
   rw [aZ,aZ]
   show b64^k*18446744073709551616*18446744073709551616=_
   grind
  rw [S,<- G] at y
  exact Int.lt_of_mul_lt_mul_right y (by omega)
 have ab:val b64 g/(b64^k*2^(64-s))<=val b64 xs/(b64^k*2^(64-s)):=Int.ediv_le_ediv O hba
 have q1:∀ z:Int,0<=z/\z<18446744073709551616->0<=z/2^(64-s)/\z/2^(64-s)<2^s:=fun z E=>
  ⟨bM E.1 (by omega),bC x (by rw [o];exact E.2)⟩
 have w:∀ u z:Int,0<=u->0<=z/\z<18446744073709551616->u*2^s+z/2^(64-s)<18446744073709551616->bor .u64 (C0 (u*2^(min (C0 (s:Int)).toNat 64))) (dI z (2^(min (C0 (64-C0 (s:Int))).toNat 64)))=u*2^s+z/2^(64-s):=by
  intro u z X E L
  have:=q1 z E
  have:=aQ X (aL N)
  rw [i,c,aC,aC,B0j (by omega),aI (show s<=64 by omega),C2 (by omega) (by omega),A0a X (by omega) L]
 have gy:=J5 H (k+1)
 have J:=J5 H k
 rw [ht] at r
 refine ⟨fun l hp=>hp=h/\l=[U (val b64 g/(b64^k*2^(64-s)))],?_,?_⟩
 ·refine E7 (fun e=>?_) (fun e=>?_)
  ·rw [n]
   refine R.load rfl (by omega) (by omega) ?_
   simp only [aC]
   refine B3 (fun e=>by rw [i] at e;omega) (fun _=>?_)
   refine R.load rfl (by omega) (by omega) ?_
   simp only [aC]
   refine B3 (fun e=>by rw [i,c] at e;omega) (fun _=>?_)
   rw [w _ _ gy.1 J (by omega),d]
   first|exact ⟨rfl,rfl⟩|exact ⟨trivial,rfl⟩
  ·refine E7 (fun e=>?_) (fun e=>?_)
   ·rw [n]
    refine R.load rfl (by omega) (by omega) ?_
    simp only [aC]
    refine B3 (fun e=>by rw [i,c] at e;omega) (fun _=>?_)
    have:g.getD (k+1) 0=0:=by simp [cK,bZ (show g.length<=k+1 by omega)]
    rw [this,dR,cO] at d
    rw [i,c,aC,B0j (by omega),d]
    first|exact ⟨rfl,rfl⟩|exact ⟨trivial,rfl⟩
   ·have G:g.getD (k+1) 0=0:=by simp [cK,bZ (show g.length<=k+1 by omega)]
    have S:g.getD k 0=0:=by simp [cK,bZ (show g.length<=k by omega)]
    rw [G,S,dR,cO,Int.zero_ediv] at d
    rw [d]
    exact ⟨rfl,rfl⟩
 ·rintro D aa ⟨rfl,q⟩
  simp only [bO,dB,and_true,true_and] at q
  subst q
  exact B1a (F:=val b64 xs/(b64^k*2^(64-s))) (by rw [w _ _ (by omega) V (by omega),r]) O rfl rfl Q hba p hK
end
def Win.swap{k k':cV}{h g1 g:bJ}{ba bb:Nat}{e e':cH}{A B:Option bN}{pa qa pb qb:List eA}{us bs:List Int}(wa:Win k h g1 ba e A pa us qa)(wb:Win k' g1 g bb e' B pb bs qb):∃ g2,Win k' h g2 bb e' B pb bs qb/\Win k g2 g ba e A pa us qa:=by
 have a:ba≠bb:=by
  rintro rfl
  have:=wa.free
  rw [wb.eq,B8] at this
  cases this
 have b:g ba=none:=by
  have:=wa.free
  rwa [wb.eq,B6 _ _ a] at this
 refine ⟨g.put ba (.cells (pa++us.map (bH k)++qa).toArray e),⟨?_,?_,wb.at_⟩,⟨b,rfl,wa.at_⟩⟩
 ·rw [B6 _ _ a.symm];exact wb.free
 ·rw [wa.eq,wb.eq];exact Heap.put_comm _ _ _ a.symm
def Vx{z y c:Int}(hz:0<=z/\z<18446744073709551616)(hy:0<=y/\y<18446744073709551616)(hc:0<=c/\c<=1):(z-y-c)%18446744073709551616=z-y-c+18446744073709551616*(if z-y-c<0 then 1 else 0):=by
 split<;>omega
def Zn(z:Int):z%18446744073709551616=z-18446744073709551616*(z/18446744073709551616):=by omega
def Jz{x y c:Int}(hx:0<=x/\x<18446744073709551616)(hy:0<=y/\y<18446744073709551616)(hc:0<=c/\c<18446744073709551616):0<=(x*y+c)/18446744073709551616/\(x*y+c)/18446744073709551616<18446744073709551616:=by
 have a:=aQ hx.1 hy.1
 have b:x*y<=18446744073709551615*y:=aD (by omega) hy.1
 omega
def pin{v w B m:Int}(h:v=w+B*m)(hv:0<=v/\v<B)(hw:0<=w/\w<B):v=w:=by
 have a:0<B:=by omega
 by_cases b:m <= -1
 ·have:=aG b (aL a);omega
 ·by_cases c:1<=m
  ·have:=aG c (aL a);omega
  ·obtain rfl:m=0:=by omega
   omega
section
variable {h g g1:bJ} {K:VP} {A B:Option bN} {ac bc an bn ba bb:Nat} {e:cH} {qa qb:List eA}
set_option maxHeartbeats 1000000 in
def A5e{us bs:List Int}{u0 u1 v0 v1:Int}{odd:Bool}(wa:Win .u64 h g1 ba e A [] us qa)(wb:Win .u64 g1 g bb e B [] bs qb)(ha:an=us.length)(hb:bn=bs.length)(hab:us.length=bs.length)(da:Dig b64 us)(db:Dig b64 bs)(hl:us.length<=1000000000)(hu0:0<=u0/\u0<18446744073709551616)(hu1:0<=u1/\u1<18446744073709551616)(hv0:0<=v0/\v0<18446744073709551616)(hv1:0<=v1/\v1<18446744073709551616)
 (hX0:0<=Ih (val b64 us) (val b64 bs) u0 v0 odd/\Ih (val b64 us) (val b64 bs) u0 v0 odd<b64^us.length) (hX1:0<=Ig (val b64 us) (val b64 bs) u1 v1 odd/\Ig (val b64 us) (val b64 bs) u1 v1 odd<b64^us.length)
 (hK:∀ us' bs' h' g1',us'.length=us.length->bs'.length=us.length->Dig b64 us'->Dig b64 bs'->val b64 us'=Ih (val b64 us) (val b64 bs) u0 v0 odd->val b64 bs'=Ig (val b64 us) (val b64 bs) u1 v1 odd->Win .u64 h' g1' ba e A [] us' qa->Win .u64 g1' g bb e B [] bs' qb->K (.tuple #[]) h'):
 aY prog Wy #[.agg #[U u0,U u1,U v0,U v1,.bool odd],.slice A an ac,.slice B bn bc] h K:=by
 subst ha hb
 refine A9f _ _ _ _ _ _ _ _ _ _ _ ?_
 unfold B3t
 refine ⟨fun l hp=>∃ (k:Nat) (j d b c Q S:Int) (xs s:List Int) (g1:bJ),l=[U j,U d,U b,U c,U Q,U S,I k]/\k<=us.length/\xs.length=us.length/\s.length=us.length/\Dig b64 xs/\Dig b64 s/\(0<=j/\j<18446744073709551616)/\(0<=d/\d<18446744073709551616)/\(0<=b/\b<18446744073709551616)/\(0<=c/\c<18446744073709551616)/\(0<=Q/\Q<=1)/\(0<=S/\S<=1)/\Win .u64 hp g1 ba e A [] xs qa/\Win .u64 g1 g bb e B [] s qb/\xs.drop k=us.drop k/\s.drop k=bs.drop k/\
  val b64 (xs.take k)=Ih (val b64 (us.take k)) (val b64 (bs.take k)) u0 v0 odd+b64^k*((if odd then d-j else j-d)+Q)/\val b64 (s.take k)=Ig (val b64 (us.take k)) (val b64 (bs.take k)) u1 v1 odd+b64^k*((if odd then c-b else b-c)+S),fun l _=>us.length-(iAt l 6).toNat,⟨0,0,0,0,0,0,0,us,bs,g1,rfl,by omega,rfl,hab.symm,da,db,by omega,by omega,by omega,by omega,by omega,by omega,wa,wb,rfl,rfl,by simp [val,Ih],by simp [val,Ig]⟩,?_⟩
 rintro j d b c Q S i hp ⟨k,ah,af,ag,ai,ab,ad,xs,s,g1,T,hk,a,n,M,N,hP,hQ,hR,hT,o,u,O,R,H,J,m,D⟩
 simp only [bO,dB,and_true,true_and] at T
 obtain ⟨rfl,rfl,rfl,rfl,rfl,rfl,rfl⟩:=T
 refine B3 (fun h1=>?_) (fun h1=>?_)
 ·have gx:=J5 M k
  have gy:=J5 N k
  have C:=G6 H
  have w:=G6 J
  have vx:=C6 b64 us k
  have vy:=C6 b64 bs k
  obtain ⟨g2,aa,ae⟩:=O.swap R
  refine O.sl.load a.symm (by omega) (by omega) ?_
  refine aa.sl.load (by omega) (by omega) (by omega) ?_
  simp only [aC]
  obtain ⟨aA,hA,_⟩:=SlV.at O.sl (i:=k) (by simp;omega)
  obtain ⟨aB,X,_⟩:=SlV.at R.sl (i:=k) (by simp;omega)
  generalize hx0:xs.getD k 0=x at *
  generalize hy0:s.getD k 0=y at *
  refine Q0 gx hu0 hP ⟨_,_,rfl,?_⟩
  refine Q0 gy hv0 hQ ⟨_,_,rfl,?_⟩
  refine Q0 gy hv1 hR ⟨_,_,rfl,?_⟩
  refine Q0 gx hu1 hT ⟨_,_,rfl,?_⟩
  have bP:=Jz gx hu0 hP
  have bQ:=Jz gy hv0 hQ
  have bR:=Jz gy hv1 hR
  have bT:=Jz gx hu1 hT
  have Z:=Cs (x*u0+j)
  have W:=Cs (y*v0+d)
  have mR:=Cs (y*v1+b)
  have mT:=Cs (x*u1+c)
  have kP:=Zn (x*u0+j)
  have kQ:=Zn (y*v0+d)
  have kR:=Zn (y*v1+b)
  have kT:=Zn (x*u1+c)
  have ek:B4 ((k:Int)+1)=((k+1:Nat):Int):=by rw [B5 (by omega) (by omega)];omega
  rw [ek]
  generalize (x*u0+j)/18446744073709551616=cP2 at *
  generalize (y*v0+d)/18446744073709551616=cQ2 at *
  generalize (y*v1+b)/18446744073709551616=cR2 at *
  generalize (x*u1+c)/18446744073709551616=cT2 at *
  generalize (x*u0+j)%18446744073709551616=p at *
  generalize (y*v0+d)%18446744073709551616=q at *
  generalize (y*v1+b)%18446744073709551616=r at *
  generalize (x*u1+c)%18446744073709551616=t at *
  have z:b64^(k+1)=b64^k*18446744073709551616:=aZ _ _
  cases odd with
  | true=>
   refine Br.of (fun _=>?_) (fun e=>by cases e)
   refine Dn Z W o ⟨_,_,rfl,aA,hA,by omega,by omega,O.storeN E2 hA (by omega) ?_⟩
   intro h2 w2
   refine Dn mR mT u ⟨_,_,rfl,aB,X,by omega,by omega,?_⟩
   obtain ⟨g3,L,E⟩:=w2.swap R
   refine L.storeN E2 X (by omega) ?_
   intro h4 w4
   obtain ⟨g5,F,G⟩:=w4.swap E
   refine ⟨⟨k+1,_,_,_,_,_,_,_,_,g5,rfl,by omega,by simpa using a,by simpa using n,M.set (Cs _),N.set (Cs _),bP,bQ,bR,bT,by split<;>omega,by split<;>omega,F,G,?_,?_,?_,?_⟩,by simp only [iAt,aH,aO];omega⟩
   ·rw [E5 (by omega)];exact F1 H
   ·rw [E5 (by omega)];exact F1 J
   ·rw [D5 (by omega),G2,aF,aI (by omega),z,vx,vy,<- C,<- w,m,Vx Z W o]
    simp only [Ih,if_true]
    grind
   ·rw [D5 (by omega),G2,aF,aI (by omega),z,vx,vy,<- C,<- w,D,Vx mR mT u]
    simp only [Ig,if_true]
    grind
  | false=>
   refine Br.of (fun e=>by cases e) (fun _=>?_)
   refine Dn W Z o ⟨_,_,rfl,aA,hA,by omega,by omega,O.storeN E2 hA (by omega) ?_⟩
   intro h2 w2
   refine Dn mT mR u ⟨_,_,rfl,aB,X,by omega,by omega,?_⟩
   obtain ⟨g3,L,E⟩:=w2.swap R
   refine L.storeN E2 X (by omega) ?_
   intro h4 w4
   obtain ⟨g5,F,G⟩:=w4.swap E
   refine ⟨⟨k+1,_,_,_,_,_,_,_,_,g5,rfl,by omega,by simpa using a,by simpa using n,M.set (Cs _),N.set (Cs _),bP,bQ,bR,bT,by split<;>omega,by split<;>omega,F,G,?_,?_,?_,?_⟩,by simp only [iAt,aH,aO];omega⟩
   ·rw [E5 (by omega)];exact F1 H
   ·rw [E5 (by omega)];exact F1 J
   ·rw [D5 (by omega),G2,aF,aI (by omega),z,vx,vy,<- C,<- w,m,Vx W Z o]
    simp only [Ih,Bool.false_eq_true,if_false]
    grind
   ·rw [D5 (by omega),G2,aF,aI (by omega),z,vx,vy,<- C,<- w,D,Vx mT mR u]
    simp only [Ig,Bool.false_eq_true,if_false]
    grind
 ·obtain rfl:k=us.length:=by omega
  rw [aM (show xs.length<=us.length by omega),aV,aM (show bs.length<=us.length by omega)] at m
  rw [aM (show s.length<=us.length by omega),aV,aM (show bs.length<=us.length by omega)] at D
  have bx:=N5 (by decide) M
  have V:=N5 (by decide) N
  rw [a] at bx
  rw [n] at V
  exact hK xs s hp g1 a n M N (pin m ⟨C1 (by decide) M,bx⟩ hX0) (pin D ⟨C1 (by decide) N,V⟩ hX1) O R
end
def Win.priv{k:cV}{h g:bJ}{b m c:Nat}{e:cH}{A:Option bN}{xs:List Int}{post:List eA}(w:Win k h g b e A [] xs post)(hx:xs≠[])(hc:c=xs.length+post.length)(hm:m<=xs.length):Priv h g e 1 A m c ((xs.take m).map (bH k)):=by
 refine ⟨by simp;omega,by omega,.inr ⟨b,xs.map (bH k)++post,?_,w.free,?_,by simp;omega,?_⟩⟩
 ·rcases w.at_ with a|a
  ·exact absurd a hx
  ·simpa using a
 ·have:=w.eq
  rwa [cA] at this
 ·rw [eB,eU (by simp;omega),List.map_take]
def Dg{k:cV}{h g:bJ}{n c:Nat}{e:cH}{A:Option bN}{xs:List Int}(p:Priv h g e 1 A n c (xs.map (bH k)))(hx:xs≠[]):∃ b post,Win k h g b e A [] xs post/\c=xs.length+post.length:=by
 obtain ⟨m,o,j⟩:=p
 rw [dX] at m
 rcases j with ⟨r,rfl⟩|⟨b,a,d,i,rfl,q,l⟩
 ·exact absurd (aU (by omega)) hx
 ·refine ⟨b,a.drop (n*1),⟨i,?_,.inr d⟩,?_⟩
  ·rw [cA,<- l,cW]
  ·rw [aS];omega
def Priv.swap{h g1 g:bJ}{e e':cH}{s s' n c m d:Nat}{A B:Option bN}{xs ys:List eA}(pa:Priv h g1 e s A n c xs)(pb:Priv g1 g e' s' B m d ys):∃ g2,Priv h g2 e' s' B m d ys/\Priv g2 g e s A n c xs:=by
 obtain ⟨r,q,C⟩:=pa
 obtain ⟨o,l,u⟩:=pb
 rcases C with ⟨E,rfl⟩|⟨j,i,x,a,rfl,y⟩
 ·exact ⟨g,⟨o,l,u⟩,⟨r,q,.inl ⟨E,rfl⟩⟩⟩
 ·rcases u with ⟨D,rfl⟩|⟨w,p,z,k,rfl,F⟩
  ·exact ⟨_,⟨o,l,.inl ⟨D,rfl⟩⟩,⟨r,q,.inr ⟨j,i,x,a,rfl,y⟩⟩⟩
  ·have b:j≠w:=by
    rintro rfl
    rw [B8] at a;cases a
   rw [B6 _ _ b] at a
   refine ⟨g.put j (.cells i.toArray e),⟨o,l,.inr ⟨w,p,z,?_,Heap.put_comm _ _ _ b.symm,F⟩⟩,⟨r,q,.inr ⟨j,i,x,a,rfl,y⟩⟩⟩
   rw [B6 _ _ b.symm];exact k
abbrev Pw(h g:bJ)(A:Option bN)(n c:Nat)(us:List Int):Prop:=Priv h g B7 1 A n c (us.map (bH .u64))
def GI(h:bJ)(G:Nat)(hp:bJ)(A:Option bN)(n c:Nat)(B:Option bN)(m d:Nat):Prop:=∃ (us vs:List Int) (g1 g:bJ),h.le g/\Pw hp g1 A n c us/\Pw g1 g B m d vs/\Dig b64 us/\Dig b64 vs/\Norm us/\Norm vs/\n=us.length/\m=vs.length/\val b64 vs<=val b64 us/\eM (val b64 us) (val b64 vs)=G/\us.length<=100000000
def A7z{a b:Int}(ha:0<=a)(hb:0<=b):eM b (a%b)=eM a b:=by
 obtain ⟨x,rfl⟩:=cR ha
 obtain ⟨y,rfl⟩:=cR hb
 rw [<- eS,cQ,cQ,fN x,fN y,<- Nat.gcd_rec]
section
variable {h g:bJ} {K:VP} {A B:Option bN} {ac bc:Nat}
set_option maxHeartbeats 1000000 in
def B1u{G an bn:Nat}{hp:bJ}(gl:Gtz h)(gi:GI h G hp A an ac B bn bc)(hK:∀ A' m c' h',h.le h'->m<=c'->Mw h' A' m (G:Int)->K (.slice A' m c') h'):Iz prog K A an ac B bn bc hp:=by
 unfold Iz
 refine ⟨fun l hp=>∃ (A B:Option bN) (n c m d:Nat),l=[.slice A n c,.slice B m d]/\GI h G hp A n c B m d,fun l hp=>match l with|[_,.slice B n _]=>B55 b64 hp B n|_=>0,⟨_,_,_,_,_,_,rfl,gi⟩,?_⟩
 rintro A1 T c1 B1 m1 d1 hp ⟨A,B,n,c,m,d,hl,q,k,g1,g,lg,R,W,du,dv,nu,nv,hn,V,S,a,bo⟩
 simp only [bO,cL,and_true] at hl
 obtain ⟨⟨rfl,rfl,rfl⟩,rfl,rfl,rfl⟩:=hl
 have Ma:Mw hp A1 T (val b64 q):=⟨q,hn,R.slV,du,nu,rfl⟩
 have Mb:Mw hp B1 m1 (val b64 k):=⟨k,V,SlV.mono R.le W.slV,dv,nv,rfl⟩
 have Z:=R.2.1
 have a8:=W.2.1
 have D:=C1 (by decide) du
 have a1:=C1 (by decide) dv
 have ax:m1<=T:=Mb.len_le (by decide) (cJ S (Ma.lt (by decide)))
 have L:h.le hp:=Heap.le_trans lg (Heap.le_trans W.le R.le)
 have a7:=Mb.len_zero (by decide)
 refine B3 (fun h1=>?_) (fun h1=>?_)
 ·refine Vz Ma Mb S (by omega) (by omega) ?_
  intro u0 u1 v0 v1 bj st
  refine ⟨_,_,_,_,_,rfl,E7 (fun e=>?_) (fun e=>?_)⟩
  ·refine Q7 Ma Mb Z a8 (by omega) (by omega) (by omega) ?_
   intro A2 m2 c2 A3 m3 c3 h6 l6 p k3 M2 M3
   refine ⟨_,_,_,_,_,_,rfl,?_⟩
   have bl:m3<=m1:=M3.len_le (by decide) (by have:=aJ (val b64 q) (show 0<val b64 k by omega);have:=Mb.lt (by decide);omega)
   obtain ⟨ws,aw,a4,J,al,au⟩:=M3
   refine Cz a4 aw (by omega) ?_
   intro A4 c4 h7 g7 l7 p7
   obtain ⟨g2,E,C⟩:=R.swap W
   obtain ⟨g8,l8,az⟩:=E.after (Heap.le_trans l6 l7)
   obtain ⟨g9,a3,bd⟩:=Priv.swap p7 az
   have bp:=aJ (val b64 q) (show 0<val b64 k by omega)
   have Mn:Mw h7 A4 ws.length (val b64 ws):=⟨ws,rfl,p7.slV,J,al,rfl⟩
   refine ⟨_,_,_,rfl,⟨_,_,_,_,_,_,rfl,k,ws,g9,g8,Heap.le_trans lg (Heap.le_trans C.le l8),a3,bd,dv,J,nv,al,V,rfl,by omega,?_,by omega⟩,?_⟩
   ·rw [au,A7z D a1];exact a
   ·simp only [Fk Mn,Fk Mb]
    have:=C1 (by decide) J
    omega
  ·obtain ⟨aa,ae,X,ag,lh⟩:=st
   have lh:=lh e
   unfold Ob
   obtain ⟨g2,E,C⟩:=R.swap W
   refine ⟨fun l hp=>∃ (B:Option bN) (m d j:Nat) (g1 g:bJ),l=[.slice B m d]/\h.le g/\Pw hp g1 B m d (k++aE j 0)/\Pw g1 g A1 T c1 q/\m=k.length+j/\m<=T,fun l _=>match l with|[.slice _ m _]=>T-m|_=>0,⟨B1,m1,d1,0,g2,g,rfl,lg,by simpa using E,C,by omega,ax⟩,?_⟩
   rintro B2 m2 d2 bq ⟨B',m',d',j,g3,g4,ab,ah,ao,ak,bk,be⟩
   simp only [bO,cL,and_true] at ab
   obtain ⟨rfl,rfl,rfl⟩:=ab
   refine B3 (fun h2=>?_) (fun h2=>?_)
   ·refine Fg K9 ao rfl rfl (by omega) (by omega) ?_
    intro A5 c5 h5 g5 l5 p5
    obtain ⟨g6,l6,a6⟩:=ak.after l5
    refine ⟨⟨A5,m2+1,c5,j+1,g5,g6,rfl,Heap.le_trans ah l6,?_,a6,by omega,by omega⟩,by simp only;omega⟩
    have p6:=p5
    rw [<- List.map_singleton (f:=bH .u64),<- dC,bF,<- List.replicate_succ'] at p6
    exact p6
   ·obtain ⟨g5,a9,a0⟩:=ao.swap ak
    have x:(k++aE j (0:Int)).length=q.length:=by simp;omega
    have i:q≠[]:=by rintro rfl;simp at hn;omega
    have am:k++aE j (0:Int)≠[]:=by intro h0;rw [h0] at x;simp at x;exact i (aU x.symm)
    obtain ⟨ba,qa,wa,bh⟩:=Dg a9 i
    obtain ⟨bb,qb,wb,bi⟩:=Dg a0 am
    have a2:=lh.gcd
    have bf:=lh.ord
    have ay:=lh.le
    have bg:val b64 k<b64^q.length:=by rw [<- hn];exact cJ S (Ma.lt (by decide))
    refine A5e wa wb hn (by omega) x.symm du (dv.append (J7 (by decide) _)) (by omega) aa ae X ag (by rw [Bf];omega) (by rw [Bf];omega) ?_
    intro u o h6 g6 y z ar ap M s Q ai
    rw [Bf] at M s
    have H:u≠[]:=by rintro rfl;simp at y;exact i (aU y.symm)
    have O:o≠[]:=by rintro rfl;simp at z;exact i (aU z.symm)
    refine ⟨rfl,?_⟩
    rw [show T=u.length by omega]
    refine Cj Q.sl (by omega) (by omega) ?_
    intro k1 av a5 ad
    refine ⟨_,_,_,rfl,?_⟩
    rw [show m2=o.length by omega]
    refine Cj (SlV.mono Q.le ai.sl) (by omega) (by omega) ?_
    intro p aq aj F
    have pA:=Q.priv (m:=k1) (c:=c1) H (by omega) av
    have pB:=ai.priv (m:=p) (c:=d2) O (by omega) aq
    have e1:(u.take k1).length=k1:=by rw [aF];omega
    have e2:(o.take p).length=p:=by rw [aF];omega
    have Mn:Mw h6 B2 p (val b64 (o.take p)):=⟨o.take p,e2.symm,SlV.mono pA.le pB.slV,ap.take _,aj,rfl⟩
    refine ⟨_,_,_,rfl,⟨_,_,_,_,_,_,rfl,u.take k1,o.take p,_,_,ah,pA,pB,ar.take _,ap.take _,a5,aj,e1.symm,e2.symm,?_,?_,by omega⟩,?_⟩
    ·rw [ad,F,M,s];omega
    ·rw [ad,F,M,s,a2];exact a
    ·simp only [Fk Mn,Fk Mb]
     rw [F,s];omega
 ·refine E7 (fun h2=>?_) (fun h2=>?_)
  ·have h0:val b64 k=0:=a7.2 (by omega)
   rw [h0,Int.gcd_zero_right] at a
   refine hK _ _ _ _ L Z ?_
   rw [<- a,Int.natAbs_of_nonneg D];exact Ma
  ·have bm:m1=1:=by omega
   obtain ⟨w,rfl⟩:∃ w,k=[w]:=by
    rcases k with _|⟨w,_|⟨w',r⟩⟩
    ·simp at V;omega
    ·exact ⟨w,rfl⟩
    ·simp at V;omega
   have hw:=dv w (by simp)
   rw [Dk] at *
   obtain ⟨t,rfl⟩:∃ t:Nat,w=(t:Int):=cR hw.1
   have br:(t:Int)<18446744073709551616:=hw.2
   have af:0<t:=by omega
   have sb:SlI .u64 hp B1 [(t:Int)]:=SlV.mono R.le W.slV
   refine sb.load V (by omega) (by omega) ?_
   refine sb.load V (by omega) (by omega) ?_
   show aY _ _ #[_,U ((t:Nat):Int)] _ _
   refine Jr Ma ⟨af,by omega⟩ (by omega) ⟨_,rfl,B0 _,?_⟩
   have r0:=aR (val b64 q) (b:=(t:Int)) (by omega)
   have r1:=aJ (val b64 q) (show (0:Int)<(t:Int) by omega)
   have N:=A7z D (show (0:Int)<=(t:Int) by omega)
   obtain ⟨r,hr⟩:=cR r0
   rw [hr] at r1 N ⊢
   show aY _ _ #[U ((t:Nat):Int),_] _ _
   refine A01 (gl.mono L) (by omega) (by omega) ⟨_,rfl,B0 _,?_⟩
   rw [cQ] at N
   have ay:cX t r<=t:=Nat.le_of_dvd af (Nat.gcd_dvd_left t r)
   refine Z9 (by omega) ?_
   intro A2 m2 c2 h2 l2 p M2
   rw [N,a] at M2
   exact ⟨_,_,_,rfl,l2,hK _ _ _ _ (Heap.le_trans L l2) p M2⟩
def Kc{x y:Int}{an bn:Nat}(gl:Gtz h)(ma:Mw h A an x)(mb:Mw h B bn y)(ha:an<=ac)(hb:bn<=bc)(hl:an<=100000000)(hl2:bn<=100000000)(hK:∀ A' m c' h',h.le h'->m<=c'->Mw h' A' m (eM x y:Int)->K (.slice A' m c') h'):aY prog Dv #[.slice A an ac,.slice B bn bc] h K:=by
 refine A0k _ _ _ _ _ _ ?_
 unfold A0l
 refine ⟨fun l s=>s=h/\∃ (A B:Option bN) (n c m d:Nat) (g a:Int),l=[.slice A n c,.slice B m d]/\Mw h A n g/\Mw h B m a/\a<=g/\n<=c/\m<=d/\n<=100000000/\m<=100000000/\eM g a=eM x y,?_,?_⟩
 ·refine E6 ma mb (by omega) ⟨_,rfl,B3 (fun b=>?_) (fun b=>?_)⟩
  ·rw [Bt] at b
   exact ⟨rfl,_,_,_,_,_,_,_,_,rfl,mb,ma,by omega,hb,ha,hl2,hl,Int.gcd_comm _ _⟩
  ·rw [Bt] at b
   exact ⟨rfl,_,_,_,_,_,_,_,_,rfl,ma,mb,by omega,ha,hb,hl,hl2,rfl⟩
 ·rintro A1 n1 c1 B1 m1 S s ⟨rfl,A2,B2,n,c,m,d,g,a,e,M1,M2,o,L,W,l1,V,i⟩
  simp only [bO,cL,and_true] at e
  obtain ⟨⟨rfl,rfl,rfl⟩,rfl,rfl,rfl⟩:=e
  have k:=M1.nonneg (by decide)
  refine E7 (fun b=>?_) (fun b=>?_)
  ·have:a=0:=(M2.len_zero (by decide)).2 (by omega)
   subst this
   rw [Int.gcd_zero_right] at i
   refine hK _ _ _ _ (B0 _) L ?_
   rw [<- i,Int.natAbs_of_nonneg k];exact M1
  ·obtain ⟨w,j,D,J,Q,rfl⟩:=M1
   obtain ⟨u,p,F,H,nv,rfl⟩:=M2
   refine Cz D j (by omega) ?_
   intro A3 T h3 Z q r
   refine ⟨_,_,_,rfl,?_⟩
   refine Cz (SlV.mono (Heap.le_trans q r.le) F) p (by omega) ?_
   intro A4 X h4 g4 N z
   refine ⟨_,_,_,rfl,?_⟩
   obtain ⟨M,R,C⟩:=r.after N
   obtain ⟨G,E,O⟩:=Priv.swap z C
   exact B1u gl ⟨w,u,G,M,Heap.le_trans q R,E,O,J,H,Q,nv,rfl,rfl,o,i,by omega⟩ hK
end
structure ZI (h:bJ) (s:Bool) (A:Option bN) (n c:Nat) (z:Int):Prop where
 cap:n<=c
 mag:Mw h A n (z.natAbs:Int)
 sgn:s=decide (z<0)
def ZI.mono{h h':bJ}{s:Bool}{A:Option bN}{n c:Nat}{z:Int}(i:ZI h s A n c z)(l:h.le h'):ZI h' s A n c z:=⟨i.cap,i.mag.mono l,i.sgn⟩
def ZI.zero{h:bJ}{A:Option bN}:ZI h false A 0 0 0:=⟨bD _,Mag.zero,rfl⟩
def ZI.len{h:bJ}{s:Bool}{A:Option bN}{n c m:Nat}{z:Int}(i:ZI h s A n c z)(hz:ZB m z)(hm:m<=6400000000):n<=100000000:=by
 obtain ⟨k,hk⟩:∃ k,k=100000000:=⟨_,rfl⟩
 rw [<- hk]
 refine i.mag.len_le (by decide) ?_
 rw [Fi]
 have b:(z.natAbs:Int)<2^m:=by
  have:((z.natAbs:Nat):Int)<((2^m:Nat):Int):=Int.ofNat_lt.2 hz
  simpa using this
 have a:=D3 (B:=2) (by decide) (show m<=64*k by omega)
 exact Int.lt_of_lt_of_le b a
def ZI.zeroIff{h:bJ}{s:Bool}{A:Option bN}{n c:Nat}{z:Int}(i:ZI h s A n c z):z=0↔n=0:=by
 have:=i.mag.len_zero (by decide)
 omega
section
variable {h g:bJ} {K:VP} {A B:Option bN} {s s':Bool} {an ac bn bc m:Nat} {x y:Int}
def H5{v:Nat}{n c:Nat}{neg:Bool}(M:Mw h A n (v:Int))(hc:n<=c)(hK:∀ s,ZI h s A n c (if neg then -(v:Int) else v)->K (.agg #[.bool s,.slice A n c]) h):aY prog J4 #[.bool neg,.slice A n c] h K:=by
 have a:=M.len_zero (by decide)
 refine A5k _ _ _ _ ?_
 unfold A9b
 cases neg with
 | true=>
  refine Br.of (fun _=>hK _ ⟨hc,?_,?_⟩) (fun e=>by cases e)
  ·simpa using M
  ·simp only [if_true,decide_eq_decide];omega
 | false=>
  refine Br.of (fun e=>by cases e) (fun _=>hK _ ⟨hc,?_,?_⟩)
  ·simpa using M
  ·simp
def W5(i:ZI h s A an ac x)(hK:∀ s',ZI h s' A an ac (-x)->K (.agg #[.bool s',.slice A an ac]) h):aY prog Ht #[.agg #[.bool s,.slice A an ac]] h K:=by
 refine B5x _ _ _ _ ?_
 unfold C23
 refine H5 (neg:= !s) i.mag i.cap ?_
 intro c a
 have e:(if (!s)=true then -(x.natAbs:Int) else x.natAbs)= -x:=by
  have:=i.sgn
  by_cases b:x<0
  ·simp only [b,decide_true] at this;subst this;simp;omega
  ·simp only [b,decide_false] at this;subst this;simp;omega
 rw [e] at a
 exact ⟨_,_,_,_,rfl,hK _ a⟩
def Ew(i:ZI h s A an ac x)(j:ZI h s' B bn bc y)(hx:ZB m x)(hy:ZB m y)(hm:m<=6400000000)(hK:∀ s1 A' n' c' h',h.le h'->ZI h' s1 A' n' c' (x+y)->K (.agg #[.bool s1,.slice A' n' c']) h'):aY prog Qs #[.agg #[.bool s,.slice A an ac],.agg #[.bool s',.slice B bn bc]] h K:=by
 have r:=i.len hx hm
 have q:=j.len hy hm
 have g:=i.sgn
 have a:=j.sgn
 refine B61 _ _ _ _ _ _ _ _ ?_
 unfold C27
 refine Br.of (fun e=>?_) (fun e=>?_)
 ·have e:s=s':=by simpa using e
  subst e
  refine P3 i.mag j.mag i.cap j.cap (by omega) (by omega) ?_
  intro A1 p c1 b d n M1
  refine ⟨_,_,_,rfl,d,?_⟩
  rw [<- eX] at M1
  refine H5 (neg:=s) M1 n ?_
  intro s1 c
  refine ⟨_,_,_,_,rfl,B0 _,hK _ _ _ _ _ d ?_⟩
  have l:(if s=true then -((x.natAbs+y.natAbs:Nat):Int) else ((x.natAbs+y.natAbs:Nat):Int))=x+y:=by
   cases s with
   | true=>have b:=of_decide_eq_true g.symm;have k:=of_decide_eq_true a.symm;simp;omega
   | false=>have b:=of_decide_eq_false g.symm;have k:=of_decide_eq_false a.symm;simp;omega
  rw [l] at c
  exact c
 ·have e:s≠s':=by simpa using e
  refine E6 i.mag j.mag (by omega) ⟨_,rfl,B3 (fun b=>?_) (fun b=>?_)⟩
  ·have o:¬ (x.natAbs:Int)<y.natAbs:=by rw [<- Bt];omega
   refine F4 i.mag j.mag i.cap (by omega) (by omega) ?_
   intro A1 p c1 b d n M1
   refine ⟨_,_,_,rfl,d,?_⟩
   rw [show (x.natAbs:Int)-y.natAbs=((x.natAbs-y.natAbs:Nat):Int) by omega] at M1
   refine H5 (neg:=s) M1 n ?_
   intro s1 c
   refine ⟨_,_,_,_,rfl,B0 _,hK _ _ _ _ _ d ?_⟩
   have l:(if s=true then -((x.natAbs-y.natAbs:Nat):Int) else ((x.natAbs-y.natAbs:Nat):Int))=x+y:=by
    cases s with
    | true=>cases s' with
     | true=>exact absurd rfl e
     | false=>have b:=of_decide_eq_true g.symm;have k:=of_decide_eq_false a.symm;rw [iP rfl];omega
    | false=>cases s' with
     | true=>have b:=of_decide_eq_false g.symm;have k:=of_decide_eq_true a.symm;rw [iN (by simp)];omega
     | false=>exact absurd rfl e
   rw [l] at c
   exact c
  ·have o:(x.natAbs:Int)<y.natAbs:=by rw [<- Bt];omega
   refine F4 j.mag i.mag j.cap (by omega) (by omega) ?_
   intro A1 p c1 b d n M1
   refine ⟨_,_,_,rfl,d,?_⟩
   rw [show (y.natAbs:Int)-x.natAbs=((y.natAbs-x.natAbs:Nat):Int) by omega] at M1
   refine H5 (neg:=s') M1 n ?_
   intro s1 c
   refine ⟨_,_,_,_,rfl,B0 _,hK _ _ _ _ _ d ?_⟩
   have l:(if s'=true then -((y.natAbs-x.natAbs:Nat):Int) else ((y.natAbs-x.natAbs:Nat):Int))=x+y:=by
    cases s with
    | true=>cases s' with
     | true=>exact absurd rfl e
     | false=>have b:=of_decide_eq_true g.symm;have k:=of_decide_eq_false a.symm;rw [iN (by simp)];omega
    | false=>cases s' with
     | true=>have b:=of_decide_eq_false g.symm;have k:=of_decide_eq_true a.symm;rw [iP rfl];omega
     | false=>exact absurd rfl e
   rw [l] at c
   exact c
def A64(i:ZI h s A an ac x)(j:ZI h s' B bn bc y)(hx:ZB m x)(hy:ZB m y)(hm:m<=6400000000)(hK:∀ s1 A' n' c' h',h.le h'->ZI h' s1 A' n' c' (x-y)->K (.agg #[.bool s1,.slice A' n' c']) h'):aY prog A82 #[.agg #[.bool s,.slice A an ac],.agg #[.bool s',.slice B bn bc]] h K:=by
 refine B5u _ _ _ _ _ _ _ _ ?_
 unfold C20
 refine W5 j ?_
 intro s1 b
 refine ⟨_,_,_,_,rfl,B0 _,Ew i b hx hy.neg hm ?_⟩
 intro e A2 g c2 d a c
 exact ⟨_,_,_,_,rfl,a,hK _ _ _ _ _ a (by rw [Int.sub_eq_add_neg];exact c)⟩
def G9(i:ZI h s A an ac x)(j:ZI h s' B bn bc y)(hx:ZB m x)(hy:ZB m y)(hm:m<=6400000000)(hK:∀ s1 A' n' c' h',h.le h'->ZI h' s1 A' n' c' (x*y)->K (.agg #[.bool s1,.slice A' n' c']) h'):aY prog T7 #[.agg #[.bool s,.slice A an ac],.agg #[.bool s',.slice B bn bc]] h K:=by
 have l:=i.len hx hm
 have k:=j.len hy hm
 have b:=i.sgn
 have a:=j.sgn
 refine B5y _ _ _ _ _ _ _ _ ?_
 unfold C24
 refine D9 i.mag j.mag i.cap j.cap (by omega) (by omega) ?_
 intro A1 n c1 o d g M1
 refine ⟨_,_,_,rfl,d,?_⟩
 rw [<- bU] at M1
 refine H5 (neg:= !(s==s')) M1 g ?_
 intro s1 c
 refine ⟨_,_,_,_,rfl,B0 _,hK _ _ _ _ _ d ?_⟩
 have e:(if (!(s==s'))=true then -((x.natAbs*y.natAbs:Nat):Int) else ((x.natAbs*y.natAbs:Nat):Int))=x*y:=by
  rw [bU]
  cases s with
  | true=>cases s' with
   | true=>rw [show (x.natAbs:Int)= -x by have:=of_decide_eq_true b.symm;omega,show (y.natAbs:Int)= -y by have:=of_decide_eq_true a.symm;omega];show -x * -y=x*y;exact Int.neg_mul_neg x y
   | false=>rw [show (x.natAbs:Int)= -x by have:=of_decide_eq_true b.symm;omega,show (y.natAbs:Int)=y by have:=of_decide_eq_false a.symm;omega];show -(-x*y)=x*y;rw [Int.neg_mul,Int.neg_neg]
  | false=>cases s' with
   | true=>rw [show (x.natAbs:Int)=x by have:=of_decide_eq_false b.symm;omega,show (y.natAbs:Int)= -y by have:=of_decide_eq_true a.symm;omega];show -(x * -y)=x*y;rw [Int.mul_neg,Int.neg_neg]
   | false=>rw [show (x.natAbs:Int)=x by have:=of_decide_eq_false b.symm;omega,show (y.natAbs:Int)=y by have:=of_decide_eq_false a.symm;omega];rfl
 rw [e] at c
 exact c
def Ci(gl:Gtz h)(i:ZI h s A an ac x)(j:ZI h s' B bn bc y)(hx:ZB m x)(hy:ZB m y)(hm:m<=6400000000)(hK:∀ A' n' c' h',h.le h'->ZI h' false A' n' c' (eM x y:Int)->K (.agg #[.bool false,.slice A' n' c']) h'):aY prog Ns #[.agg #[.bool s,.slice A an ac],.agg #[.bool s',.slice B bn bc]] h K:=by
 have d:=i.len hx hm
 have a:=j.len hy hm
 refine B60 _ _ _ _ _ _ _ _ ?_
 unfold C26
 refine Kc gl i.mag j.mag i.cap j.cap d a ?_
 intro A1 e c1 g b c M1
 refine ⟨_,_,_,rfl,hK _ _ _ _ b ⟨c,?_,?_⟩⟩
 ·rw [cQ] at M1
  rw [Int.natAbs_natCast]
  exact M1
 ·simp
def Cg(i:ZI h s A an ac x)(hK:K (I (Int.sign x)) h):aY prog Im #[.agg #[.bool s,.slice A an ac]] h K:=by
 have c:=i.zeroIff
 have b:=i.sgn
 refine B2i _ _ _ _ ?_
 unfold B8t
 refine E7 (fun e=>?_) (fun e=>?_)
 ·obtain rfl:x=0:=by omega
  simpa using hK
 ·refine Br.of (fun a=>?_) (fun a=>?_)
  ·subst a
   have:=of_decide_eq_true b.symm
   rw [dG this] at hK;exact hK
  ·subst a
   have:=of_decide_eq_false b.symm
   rw [dS (by omega)] at hK;exact hK
def Jc(i:ZI h s A an ac x)(j:ZI h s' B bn bc y)(hx:ZB m x)(hy:ZB m y)(hm:m<=6400000000)(hK:K (I (Cc x y)) h):aY prog Hc #[.agg #[.bool s,.slice A an ac],.agg #[.bool s',.slice B bn bc]] h K:=by
 have k:=i.len hx hm
 have g:=j.len hy hm
 have d:=i.sgn
 have a:=j.sgn
 refine A2q _ _ _ _ _ _ _ _ ?_
 unfold A44
 have c1:x<0->y<0->Cc (y.natAbs:Int) x.natAbs=Cc x y:=fun c b=>by unfold Cc;split<;>split<;>first|rfl|omega|(split<;>split<;>first|rfl|omega)|(split<;>first|rfl|omega)
 have c2:¬ x<0->¬ y<0->Cc (x.natAbs:Int) y.natAbs=Cc x y:=fun c b=>by rw [show (x.natAbs:Int)=x by omega,show (y.natAbs:Int)=y by omega]
 cases s with
 | true=>
  have c:=of_decide_eq_true d.symm
  refine Br.of (fun _=>?_) (fun e=>by cases e)
  cases s' with
  | true=>
   have b:=of_decide_eq_true a.symm
   refine Br.of (fun _=>?_) (fun e=>by cases e)
   exact E6 j.mag i.mag (by omega) ⟨_,rfl,by rw [c1 c b];exact hK⟩
  | false=>
   have b:=of_decide_eq_false a.symm
   refine Br.of (fun e=>by cases e) (fun _=>Br.of (fun _=>?_) (fun e=>by cases e))
   have:Cc x y= -1:=by unfold Cc;rw [iP (by omega)]
   rw [this] at hK;exact hK
 | false=>
  have c:=of_decide_eq_false d.symm
  refine Br.of (fun e=>by cases e) (fun _=>Br.of (fun e=>by cases e) (fun _=>?_))
  cases s' with
  | true=>
   have b:=of_decide_eq_true a.symm
   refine Br.of (fun _=>?_) (fun e=>by cases e)
   have:Cc x y=1:=by unfold Cc;rw [iN (by omega),iP (by omega)]
   rw [this] at hK;exact hK
  | false=>
   have b:=of_decide_eq_false a.symm
   refine Br.of (fun e=>by cases e) (fun _=>?_)
   exact E6 i.mag j.mag (by omega) ⟨_,rfl,by rw [c2 c b];exact hK⟩
end
section
variable {h g:bJ} {K:VP} {A B:Option bN} {s s':Bool} {an ac bn bc m:Nat} {x y:Int}
def S2(hs:s=decide (x<0)):(s=true/\x= -(x.natAbs:Int))\/(s=false/\x=(x.natAbs:Int)):=by
 by_cases h:x<0
 ·left;exact ⟨by rw [hs];simpa using h,by omega⟩
 ·right;exact ⟨by rw [hs];simpa using h,by omega⟩
def B0z(a b:Nat):(a:Int).tdiv b=((a/b:Nat):Int)/\(-(a:Int)).tdiv (-(b:Int))=((a/b:Nat):Int)/\(-(a:Int)).tdiv b= -((a/b:Nat):Int)/\(a:Int).tdiv (-(b:Int))= -((a/b:Nat):Int):=by
 refine ⟨(cT a b).symm,?_,?_,?_⟩
 ·rw [Int.neg_tdiv,Int.tdiv_neg,Int.neg_neg,cT]
 ·rw [Int.neg_tdiv,cT]
 ·rw [Int.tdiv_neg,cT]
def A3c(a b:Nat):(a:Int).tmod b=((a%b:Nat):Int)/\(-(a:Int)).tmod (-(b:Int))= -((a%b:Nat):Int)/\(-(a:Int)).tmod b= -((a%b:Nat):Int)/\(a:Int).tmod (-(b:Int))=((a%b:Nat):Int):=by
 refine ⟨(eC a b).symm,?_,?_,?_⟩
 ·rw [Int.neg_tmod,Int.tmod_neg,eC]
 ·rw [Int.neg_tmod,eC]
 ·rw [Int.tmod_neg,eC]
def Ng(i:ZI h s A an ac x)(j:ZI h s' B bn bc y)(hx:ZB m x)(hy:ZB m y)(hm:m<=6400000000)(hy0:y≠0)(hK:∀ s1 A1 n1 c1 s2 A2 n2 c2 h',h.le h'->ZI h' s1 A1 n1 c1 (x.tdiv y)->ZI h' s2 A2 n2 c2 (x.tmod y)->K (.tuple #[.agg #[.bool s1,.slice A1 n1 c1],.agg #[.bool s2,.slice A2 n2 c2]]) h'):aY prog Kd #[.agg #[.bool s,.slice A an ac],.agg #[.bool s',.slice B bn bc]] h K:=by
 have q:=i.len hx hm
 have n:=j.len hy hm
 have o:=j.zeroIff
 have c:=S2 i.sgn
 have d:=S2 j.sgn
 refine A5h _ _ _ _ _ _ _ _ ?_
 unfold A95
 refine E7 (fun e=>by omega) (fun _=>?_)
 refine Q7 i.mag j.mag i.cap j.cap (by omega) (by omega) (by omega) ?_
 intro A1 r c1 A2 p c2 u k l g M1 M2
 refine ⟨_,_,_,_,_,_,rfl,?_⟩
 rw [<- dO] at M1
 rw [<- eS] at M2
 refine H5 (neg:= !(s==s')) M1 l ?_
 intro s1 a
 refine ⟨_,_,_,_,rfl,B0 _,?_⟩
 refine H5 (neg:=s) M2 g ?_
 intro s2 b
 refine ⟨_,_,_,_,rfl,B0 _,hK _ _ _ _ _ _ _ _ _ k ?_ ?_⟩
 ·have e:(if (!(s==s'))=true then -((x.natAbs/y.natAbs:Nat):Int) else ((x.natAbs/y.natAbs:Nat):Int))=x.tdiv y:=by
   have t:=B0z x.natAbs y.natAbs
   rcases c with ⟨rfl,hx'⟩|⟨rfl,hx'⟩<;>rcases d with ⟨rfl,hy'⟩|⟨rfl,hy'⟩<;>rw [<- hx',<- hy'] at t
   ·exact t.2.1.symm
   ·exact t.2.2.1.symm
   ·exact t.2.2.2.symm
   ·exact t.1.symm
  rw [e] at a;exact a
 ·have e:(if s=true then -((x.natAbs%y.natAbs:Nat):Int) else ((x.natAbs%y.natAbs:Nat):Int))=x.tmod y:=by
   have t:=A3c x.natAbs y.natAbs
   rcases c with ⟨rfl,hx'⟩|⟨rfl,hx'⟩<;>rcases d with ⟨rfl,hy'⟩|⟨rfl,hy'⟩<;>rw [<- hx',<- hy'] at t
   ·exact t.2.1.symm
   ·exact t.2.2.1.symm
   ·exact t.2.2.2.symm
   ·exact t.1.symm
  rw [e] at b;exact b
def I3(i:ZI h s A an ac x)(hK:K (.bool (decide (x=0))) h):aY prog E4 #[.agg #[.bool s,.slice A an ac]] h K:=by
 have b:=i.zeroIff
 refine A5i _ _ _ _ ?_
 unfold A96
 have:((an:Int)==0)=decide (x=0):=by
  by_cases a:x=0
  ·simp [a,b.1 a]
  ·have:¬ an=0:=fun e=>a (b.2 e)
   simp [a,this]
 rw [this];exact hK
def N3(i:ZI h s A an ac x)(hK:K (.bool (decide (x=1))) h):aY prog V6 #[.agg #[.bool s,.slice A an ac]] h K:=by
 have k:=S2 i.sgn
 have d:=i.zeroIff
 have M:=i.mag
 refine A97 _ _ _ _ ?_
 unfold B3o
 rcases k with ⟨rfl,g⟩|⟨rfl,g⟩
 ·refine Br.of (fun e=>by cases e) (fun _=>?_)
  rw [show decide (x=1)=false by simp;omega] at hK;exact hK
 ·refine Br.of (fun _=>?_) (fun e=>by cases e)
  obtain ⟨xs,a,l,n,o,c⟩:=M
  refine E7 (fun e=>?_) (fun e=>?_)
  ·obtain ⟨w,rfl⟩:∃ w,xs=[w]:=by
    rcases xs with _|⟨w,_|⟨p,r⟩⟩
    ·simp at a;omega
    ·exact ⟨w,rfl⟩
    ·simp at a;omega
   refine l.load a (by omega) (by omega) ?_
   rw [Dk] at c
   show K (.bool (w==1)) h
   have:(w==1)=decide (x=1):=by
    by_cases b:x=1
    ·have:w=1:=by omega
     simp [b,this]
    ·have:¬ w=1:=by omega
     simp [b,this]
   rw [this];exact hK
  ·have:¬ x=1:=by
    rintro rfl
    have b:=i.mag.len_le (j:=1) (by decide) (by decide)
    have m:¬ an=0:=fun e=>by have:=d.2 e;omega
    omega
   rw [show decide (x=1)=false by simp [this]] at hK;exact hK
def R9(i:ZI h s A an ac x)(j:ZI h s' B bn bc y)(hx:ZB m x)(hy:ZB m y)(hm:m<=6400000000)(hy0:y≠0)(hK:∀ s1 A1 n1 c1 h',h.le h'->ZI h' s1 A1 n1 c1 (x.tdiv y)->K (.agg #[.bool s1,.slice A1 n1 c1]) h'):aY prog Fp #[.agg #[.bool s,.slice A an ac],.agg #[.bool s',.slice B bn bc]] h K:=by
 refine B5v _ _ _ _ _ _ _ _ ?_
 unfold C21
 refine N3 j ⟨_,rfl,B3 (fun e=>?_) (fun e=>?_)⟩
 ·subst e
  exact hK _ _ _ _ _ (B0 _) (by rw [Int.tdiv_one];exact i)
 ·refine Ng i j hx hy hm hy0 ?_
  intro s1 A1 n1 c1 c A2 k c2 d b a g
  exact ⟨_,_,_,_,_,_,_,_,rfl,hK _ _ _ _ _ b a⟩
def A18(i:ZI h s A an ac x)(j:ZI h s' B bn bc y)(hx:ZB m x)(hm:m<=6400000000)(hK:K (.bool (decide (x=y))) h):aY prog Wx #[.agg #[.bool s,.slice A an ac],.agg #[.bool s',.slice B bn bc]] h K:=by
 have n:=i.len hx hm
 have k:=S2 i.sgn
 have g:=S2 j.sgn
 have c:=i.sgn
 have b:=j.sgn
 refine A99 _ _ _ _ _ _ _ _ ?_
 unfold B3q
 refine Br.of (fun e=>?_) (fun e=>?_)
 ·have e:s=s':=by simpa using e
  refine E6 i.mag j.mag (by omega) ⟨_,rfl,?_⟩
  have:(Cc (x.natAbs:Int) y.natAbs==0)=decide (x=y):=by
   by_cases d:x=y
   ·subst d;unfold Cc;simp
   ·have l:¬ x.natAbs=y.natAbs:=by
     rcases k with ⟨rfl,hx'⟩|⟨rfl,hx'⟩<;>rcases g with ⟨a,hy'⟩|⟨a,hy'⟩<;>(rw [<- e] at a)<;>first|omega|(cases a)
    unfold Cc
    by_cases a:(x.natAbs:Int)<y.natAbs
    ·rw [iP a];simp [d]
    ·rw [iN a,iP (by omega)];simp [d]
  rw [this];exact hK
 ·have e:s≠s':=by simpa using e
  have:¬ x=y:=by rintro rfl;exact e (c.trans b.symm)
  rw [show decide (x=y)=false by simp [this]] at hK;exact hK
def Pl{n:Int}(h1: -9223372036854775808<=n)(h2:n<=9223372036854775807)(hK:∀ s1 A1 n1 c1 h',h.le h'->ZI h' s1 A1 n1 c1 n->K (.agg #[.bool s1,.slice A1 n1 c1]) h'):aY prog A03 #[I n] h K:=by
 refine B62 _ ?_
 unfold C28
 refine B3 (fun b=>?_) (fun b=>?_)
 ·have e:C0 (0-C0 n)=(n.natAbs:Int):=by rw [F3,F3];omega
  rw [e]
  refine Z9 (by omega) ?_
  intro A1 d c1 h1 c a M1
  exact ⟨_,_,_,rfl,hK _ _ _ _ _ c ⟨a,M1,by simpa using b⟩⟩
 ·have e:C0 n=(n.natAbs:Int):=by rw [F3];omega
  rw [e]
  refine Z9 (by omega) ?_
  intro A1 d c1 h1 c a M1
  exact ⟨_,_,_,rfl,hK _ _ _ _ _ c ⟨a,M1,by simpa using b⟩⟩
end
def A4k{P:dE}{t d e:cH}(ht:P.underlying t=some .string)(hd:P.underlying d=some (.slice e))(he:P.underlying e=some (.int .u8)){h:bJ}{l:List UInt8}{K:VP}
 (x:∀ A c h',h.le h'->l.length<=c->SlV h' A (yv l)->K (.slice A l.length c) h'):wpH P (convert t d (.string (bs l))) K h:=by
 unfold convert
 simp only [B9,D6 ht,D6 hd,D6 he]
 unfold Conv.stringToBytes
 simp only [B9]
 refine Gq rfl (fun o=>?_)
 have g:(bs l).size=l.length:=by simp [bs,ByteArray.size]
 have a:l.length<=(Question.appendCap (bs l).size 0 e).cut o:=by
  rw [g];simp only [Question.cut];omega
 generalize (Question.appendCap (bs l).size 0 e).cut o=cap at *
 rw [O2]
 intro b s
 generalize hcs:((bs l).data.map (fun b=>bH .u8 b.toNat)++Array.replicate (cap-(bs l).size) (bH .u8 0))=cs
 have n:h.le (h.put b (.cells cs e (cs.size,cs.size+1))):=Heap.le_put _ s
 have m:(h.put b (.cells cs e)).freeze { block:=b,off:=cs.size } 1=h.put b (.cells cs e (cs.size,cs.size+1)):=by
  unfold Heap.freeze
  rw [iN (by decide)]
  funext k
  by_cases j:k=b
  ·subst j
   simp only [if_true,B8,Option.map_some]
   rfl
  ·rw [iN j,B6 _ _ j,B6 _ _ j]
 refine ⟨cs,e,_,B8 _ _ _,?_⟩
 refine ⟨⟨_,B8 _ _ _⟩,?_⟩
 show K (.slice (some ⟨b,0,none⟩) (bs l).size cap) ((h.put b (.cells cs e)).freeze { block:=b,off:=cs.size } 1)
 rw [m,g]
 refine x _ _ _ n a (.inr ⟨_,rfl,?_⟩)
 intro i v p
 have r:i<l.length:=by
  have:=(List.getElem?_eq_some_iff.1 p).1
  simpa [yv] using this
 have q:eD ⟨b,0,none⟩ i=⟨b,i,none⟩:=by rw [H7,fK]
 rw [q,D7,<- hcs,Array.getElem?_append_left (by simp [bs];exact r)]
 rw [<- p]
 simp [yv,bs]
def A2b{x y:Int}(hy:0<y):(x.tmod y<0->x/y=x.tdiv y-1)/\(0<=x.tmod y->x/y=x.tdiv y):=by
 have d:=Int.mul_tdiv_add_tmod x y
 have c: -y<x.tmod y/\x.tmod y<y:=by
  have b:=eG x.natAbs (show 0<y.natAbs by omega)
  have t:=A3c x.natAbs y.natAbs
  rw [show ((y.natAbs:Nat):Int)=y by omega] at t
  by_cases e:x<0
  ·rw [show -((x.natAbs:Nat):Int)=x by omega] at t
   have:=t.2.2.1
   omega
  ·rw [show ((x.natAbs:Nat):Int)=x by omega] at t
   have:=t.1
   omega
 refine ⟨fun h=>?_,fun h=>?_⟩
 ·refine (Xm (a:=x.tmod y+y) ?_ (by omega) (by omega)).1
  rw [Int.mul_sub];omega
 ·exact (Xm (a:=x.tmod y) (by omega) h (by omega)).1
def ZB.tdiv{m:Nat}{x y:Int}(h:ZB m x):ZB m (x.tdiv y):=by
 unfold ZB at *
 rw [Int.natAbs_tdiv]
 exact Nat.lt_of_le_of_lt (eV _ _) h
section
variable {h g:bJ} {K:VP} {A B:Option bN} {s s':Bool} {an ac bn bc m:Nat} {x y:Int}
def Sp(i:ZI h s A an ac x)(j:ZI h s' B bn bc y)(hx:ZB m x)(hy:ZB m y)(hm:m+1<=6400000000)(hy0:0<y)(hK:∀ s1 A1 n1 c1 h',h.le h'->ZI h' s1 A1 n1 c1 (x/y)->K (.agg #[.bool s1,.slice A1 n1 c1]) h'):aY prog In #[.agg #[.bool s,.slice A an ac],.agg #[.bool s',.slice B bn bc]] h K:=by
 have l:=A2b (x:=x) hy0
 refine A0e _ _ _ _ _ _ _ _ ?_
 unfold A0f
 refine Ng i j hx hy (by omega) (by omega) ?_
 intro s1 A1 n1 c1 C A2 F c2 E g c q
 refine ⟨_,_,_,_,_,_,_,_,rfl,?_⟩
 refine Cg q ⟨_,rfl,B0 _,?_⟩
 refine Cg (j.mono g) ⟨_,rfl,B0 _,?_⟩
 rw [dS hy0,Int.mul_one]
 have z: -1<=Int.sign (x.tmod y)/\Int.sign (x.tmod y)<=1:=by
  rcases Int.lt_trichotomy (x.tmod y) 0 with h|h|h
  ·rw [dG h];omega
  ·rw [h];decide
  ·rw [dS h];omega
 rw [B5 (by omega) (by omega)]
 refine B3 (fun e=>?_) (fun e=>?_)
 ·have a:x.tmod y<0:=Int.sign_neg_iff.1 e
  refine Pl (by omega) (by omega) ?_
  intro H A3 G u D d o
  refine ⟨_,_,_,_,rfl,d,?_⟩
  refine A64 (m:=m+1) (c.mono d) o (hx.tdiv.mono (by omega)) ?_ hm ?_
  ·unfold ZB
   have:1<=2^m:=Nat.one_le_two_pow
   rw [Nat.pow_succ];simp;omega
  ·intro r A4 J w L n k
   rw [<- l.1 a] at k
   exact ⟨_,_,_,_,rfl,n,hK _ _ _ _ _ (Heap.le_trans g (Heap.le_trans d n)) k⟩
 ·have b:0<=x.tmod y:=by
   by_cases p:x.tmod y<0
   ·exact absurd (by rw [dG p];decide) e
   ·omega
  rw [<- l.2 b] at c
  exact hK _ _ _ _ _ g c
end
