/- A part. -/
import Derived.Test.YtmbfcbbkbefgfaaGreatDoorG16
import Derived.Test.YtmbfcbbkbefgfaaGreatDoorG18
open Go.Proofs.Tryz
set_option linter.all false
open _root_.Go.Addr renaming add->eC
open _root_.Go.Builtin renaming copy_->dL
open _root_.Go.Extern.MathBitsCarry renaming m64->aT,pair->fD
open _root_.Go.Instr renaming storeAt->dK
open Int renaming toNat_natCast->aC,mul_le_mul_of_nonneg_right->aD,mul_le_mul_of_nonneg_left->aG,emod_lt_of_pos->aJ,mul_ediv_add_emod->aK,le_of_lt->aL,mul_comm->aP,mul_nonneg->aQ,emod_nonneg->aR,pow_add->aW,pow_succ->aZ,tdiv_eq_ediv_of_nonneg->bB,ediv_lt_of_lt_mul->bC,pow_pos->bG,mul_lt_mul_of_pos_right->bI,ediv_eq_zero_of_lt->bK,ediv_nonneg->bM,natCast_mul->bU,tmod_eq_emod_of_nonneg->bW,mul_lt_mul_of_pos_left->bX,mul_assoc->cD,mul_add->cI,lt_of_le_of_lt->cJ,zero_add->cO,gcd_natCast_natCast->cQ,eq_ofNat_of_zero_le->cR,ofNat_tdiv->cT,tdiv->dE,sign_eq_neg_one_of_neg->dF,mul_le_mul->dG,fdiv->dH,natCast_ediv->dN,ediv_le_self->dO,ediv_ediv_of_nonneg->dP,zero_mul->dQ,sign_eq_one_of_pos->dR,add_mul_ediv_right->dS,add_comm->dT,add_mul_ediv_left->dY,ofNat_tmod->eB,mul_ediv_cancel->eD,mul_zero->eJ,gcd->eK,emod_eq_of_lt->eM,add_zero->eO,natCast_emod->eR,natCast_add->eV,add_mul_emod_self_right->eX,fdiv_eq_ediv_of_nonneg->fB,zero_emod->fE,toNat_pow_of_nonneg->fH,pow_zero->fO
open List renaming replicate->aE,length_take->aF,getElem?_cons_zero->aH,take_of_length_le->aM,length_append->aN,getElem?_cons_succ->aO,length_drop->aS,eq_nil_of_length_eq_zero->aU,take_length->aV,drop_of_length_le->aX,drop_replicate->bA,append_assoc->bF,length_set->bL,length_replicate->bY,getElem?_eq_none->bZ,nil_append->cA,append_nil->cC,take_replicate->cF,getD->cK,drop_drop->cM,take_left'->cP,replicate_append_replicate->cU,take_append_drop->cW,drop_append_of_le_length->cZ,map_append->dB,drop_left'->dC,length_map->dV,getElem?_toArray->dX,drop_length->eP,drop_append->eQ,take_append_of_le_length->eS,getElem?_append_right->eZ,drop_zero->fA,drop_eq_getElem_cons->fC,getElem?_set_self->fN
open List.cons renaming injEq->bO
open Nat renaming min_eq_left->aI,le_refl->bD,sub_zero->bV,add_sub_cancel_left->cG,gcd->cX,pow_pos->cY,one_mul->dI,add_mul->dJ,min_eq_right->dM,div_add_mod->dU,mul_one->eA,mul_assoc->eE,mod_lt->eF,mul_comm->eG,add_zero->eI,div_le_self->eU,testBit_two_pow_mul->fF,mul_div_cancel_left->fG,zero_mul->fI,zero_add->fJ,le_mul_of_pos_left->fK,gcd_sub_self_right->fL,gcd_comm->fM
open Nat.Coprime renaming gcd_mul_left_cancel_right->cN
open _root_.Go.Value renaming int->bH
open _root_.Go.Value.int renaming injEq->dA
open _root_.Go.Value.slice renaming injEq->cL
open _root_.Go renaming Addr->bN,TypeId->cH,IntKind->cV,Program->dD,Value->dZ
open _root_.Go.Proofs.YtmbfcbbkbefgfaaGreatDoor renaming FCall->aY,Heap->bJ
namespace Go.Proofs.YtmbfcbbkbefgfaaGreatDoor
set_option maxRecDepth 20000
open Go
def ndg(x:Nat):Nat:=x*78913/262144
def B58:∀ x,x<65->2^x<=10^(ndg x+1)/\(ndg x=0\/10^(ndg x-1)<=2^(x-1))/\ndg x<=19:=by decide
def A1l{n k:Nat}(h1:10^k<=n)(h2:n<10^(k+1)):(dd n).length=k+1:=by
 have a:=(N6 (n:=n) (k:=k+1)).2 h2
 have b:¬ (dd n).length<=k:=fun e=>by have:=N6.1 e;omega
 omega
def B98{d:Nat}(h0:d≠0)(h:d<2^64):(dd d).length=ndg (I9 d)+(if 10^ndg (I9 d)<=d then 1 else 0):=by
 have j:=Ep h
 obtain ⟨i,e⟩:=Bj h0
 obtain ⟨l,b,g⟩:=B58 (I9 d) (by omega)
 split
 ·rename_i a
  exact A1l a (by omega)
 ·rename_i a
  rcases b with b|b
  ·rw [b] at a;simp at a;omega
  ·obtain ⟨k,hk⟩:∃ k,ndg (I9 d)=k+1:=by
    by_cases c:ndg (I9 d)=0
    ·rw [c] at a;simp at a;omega
    ·exact ⟨ndg (I9 d)-1,by omega⟩
   rw [hk] at a b ⊢
   rw [Nat.add_sub_cancel] at b
   rw [eI]
   exact A1l (by omega) (by omega)
def B71(w n:Nat):pad (w+2) n=pad w (n/100)++[dch (n/10%10),dch (n%10)]:=by
 rw [Py,Py,Nat.div_div_eq_div_mul];simp
def A8z(n:Nat)(h:n=0):pad 0 n=[]:=by subst h;simp [pad,F7]
abbrev b64:Int:=18446744073709551616
abbrev Mw(h:bJ)(A:Option bN)(len:Nat)(n:Int):Prop:=Mag .u64 b64 h A len n
structure Win (k:cV) (h g:bJ) (b:Nat) (e:cH) (A:Option bN) (pre:List dZ) (xs:List Int) (post:List dZ):Prop where
 free:g b=none
 eq:h=g.put b (.cells (pre++xs.map (bH k)++post).toArray e)
 at_:xs=[]\/A=some ⟨b,pre.length,none⟩
section
variable {k:cV} {h g:bJ} {b:Nat} {e:cH} {A:Option bN} {pre post:List dZ} {xs:List Int}
def Win.le(w:Win k h g b e A pre xs post):g.le h:=by rw [w.eq];exact Heap.le_put _ w.free
def Win.sl(w:Win k h g b e A pre xs post):SlI k h A xs:=by
 rcases w.at_ with rfl|j
 ·exact SlI.nil
 ·right
  refine ⟨_,j,fun i v a=>?_⟩
  rw [w.eq,I0,G3]
  have d:i<(xs.map (bH k)).length:=by
   by_cases c:i<(xs.map (bH k)).length
   ·exact c
   ·rw [bZ (by omega)] at a;cases a
  simp only [dX]
  rw [bF,eZ (by omega),cG,List.getElem?_append_left d]
  exact a
def Win.store{P:dD}{t:cH}(one:P.cellsOf t=1/\(P.info? t).isSome=true)(w:Win k h g b e A pre xs post){a:bN}(ha:A=some a){i v:Int}(h0:0<=i)(h1:i<xs.length){K:Unit->bJ->Prop}
 (x:∀ h',Win k h' g b e A pre (xs.set i.toNat v) post->K () h'):wpH P (dK t (.pointer (some (eC a (i.toNat*1)))) (.int k v)) K h:=by
 have d:i.toNat<xs.length:=by omega
 have c:A=some ⟨b,pre.length,none⟩:=by
  rcases w.at_ with rfl|c
  ·simp at d
  ·exact c
 rw [ha] at c
 cases c
 rw [w.eq,I0,eA]
 refine A0h one.1 one.2 rfl rfl (by simp;omega) ?_
 refine x _ ⟨w.free,?_,.inr ha⟩
 have:(pre++xs.map (bH k)++post).toArray.setIfInBounds (pre.length+i.toNat) (.int k v)=(pre++(xs.set i.toNat v).map (bH k)++post).toArray:=by
  rw [List.map_set]
  simp only [List.setIfInBounds_toArray,bF]
  congr 1
  rw [List.set_append_right _ _ (by omega),cG,List.set_append_left _ _ (by simpa using d)]
 rw [this]
def Win.storeN{P:dD}{t:cH}(one:P.cellsOf t=1/\(P.info? t).isSome=true)(w:Win k h g b e A pre xs post){a:bN}(ha:A=some a){i:Nat}{v:Int}(h1:i<xs.length){K:Unit->bJ->Prop}
 (x:∀ h',Win k h' g b e A pre (xs.set i v) post->K () h'):wpH P (dK t (.pointer (some (eC a (i*1)))) (.int k v)) K h:=by
 have:=w.store one ha (i:=(i:Int)) (v:=v) (K:=K) (by omega) (by omega) (by simpa using x)
 simpa using this
def Win.call{P:dD}{f:FuncId}{args:Array dZ}(w:Win k h g b e A pre xs post){K:VP}(x:aY P f args g (fun r h0=>∀ h',Win k h' h0 b e A pre xs post->K r h')):aY P f args h K:=by
 rw [w.eq]
 exact FCall.frame w.free x fun r h0 a c=>c _ ⟨a,rfl,w.at_⟩
def Win.blk(k:cV)(e:cH){g:bJ}{b:Nat}(hb:g b=none)(zs:List Int):Win k (Go.Proofs.YtmbfcbbkbefgfaaGreatDoor.blk k e g b zs) g b e (some ⟨b,0,none⟩) [] zs []:=
 ⟨hb,by simp [Go.Proofs.YtmbfcbbkbefgfaaGreatDoor.blk],.inr rfl⟩
def Win.sub(w:Win k h g b e A pre xs post){l m c:Nat}(hl:l<=m)(hm:m<=xs.length)(hc:xs.length<=c):
 Win k h g b e (J4 A c l 1) (pre++(xs.take l).map (bH k)) ((xs.drop l).take (m-l)) ((xs.drop m).map (bH k)++post):=by
 refine ⟨w.free,?_,?_⟩
 ·rw [w.eq]
  congr 3
  have:xs=xs.take l++((xs.drop l).take (m-l)++xs.drop m):=by
   have a:xs.drop m=(xs.drop l).drop (m-l):=by rw [cM];congr 1;omega
   rw [a,cW,cW]
  conv=>lhs;rw [this]
  simp [dB,bF]
 ·by_cases d:m-l=0
  ·left;simp [d]
  ·right
   rcases w.at_ with rfl|i
   ·simp at hm;omega
   ·unfold J4
    rw [iN (by omega),i]
    simp only [Option.map_some,I0,eA,aN,dV,aF]
    rw [aI (by omega)]
def Win.whole{h' g':bJ}(w:Win k h g b e A pre xs post){l m:Nat}(hl:l<=m)(hm:m<=xs.length){B:Option bN}{ys:List Int}(hy:ys.length=m-l)(v:Win k h' g' b e B (pre++(xs.take l).map (bH k)) ys ((xs.drop m).map (bH k)++post)):
 Win k h' g' b e A pre (xs.take l++ys++xs.drop m) post:=by
 refine ⟨v.free,?_,?_⟩
 ·rw [v.eq]
  congr 3
  simp [dB,bF]
 ·rcases w.at_ with rfl|a
  ·left
   simp at hm
   have:ys=[]:=aU (by omega)
   simp [this]
  ·exact .inr a
def Priv.win{n c:Nat}(p:Priv h g e 1 A n c (xs.map (bH k)))(hx:xs≠[]):∃ b post,Win k h g b e A [] xs post:=by
 obtain ⟨j,r,m⟩:=p
 rcases m with ⟨o,rfl⟩|⟨b,a,d,l,rfl,q,i⟩
 ·simp at j
  exact absurd (aU (by omega)) hx
 ·refine ⟨b,a.drop (n*1),l,?_,.inr d⟩
  rw [cA,<- i,cW]
end
def Dh{P:dD}{t:cH}(one:P.cellsOf t=1/\(P.info? t).isSome=true){k:cV}{n:Int}{i:Nat}{g:bJ}{b:Nat}{e:cH}{zs:List Int}(hi:i<zs.length){K:Unit->bJ->Prop}
 (x:K () (blk k e g b (zs.set i n))):wpH P (dK t (.pointer (some (eC ⟨b,0,none⟩ (i*1)))) (.int k n)) K (blk k e g b zs):=by
 have:=N7 (P:=P) (t:=t) one (k:=k) (n:=n) (i:=(i:Int)) (g:=g) (b:=b) (e:=e) (zs:=zs) (K:=K) (by simpa using hi) (by simpa using x)
 simpa using this
def Eo{P:dD}{t e e' ty:cH}{k:cV}{bytes:Nat}(s:SliceT P t e' (.int k 0) 1 bytes){h g:bJ}{b:Nat}{A:Option bN}{pre post:List dZ}{xs:List Int}{n c m d:Nat}(w:Win k h g b e A pre xs post)(hn:n=xs.length){B:Option bN}{ys:List Int}(sy:SlI k h B ys)(hm:m=ys.length)(hle:ys.length<=xs.length){K:VP}
 (x:∀ h',Win k h' g b e A pre (ys++xs.drop ys.length) post->K (I ys.length) h'):wpH P (dL #[t,t] ty #[.slice A n c,.slice B m d]) K h:=by
 subst hn hm
 obtain ⟨i,q,y,o,p⟩:=s.parts
 unfold dL
 simp only [dX,aH,aO,C3,E3 s.und,J5 q,F4,Builtin.lenOf,o]
 have l:Nat.min ys.length xs.length=ys.length:=aI hle
 rw [l]
 refine I6 (s:=1) (cs:=ys.map (bH k)) (by simp) sy ?_
 cases A with
 | none=>
  rcases w.at_ with j|j
  ·subst j
   have:ys=[]:=aU (by simpa using hle)
   subst this
   exact x h (by simpa using w)
  ·cases j
 | some a=>
  simp only [C3]
  rcases w.at_ with j|j
  ·subst j
   have:ys=[]:=aU (by simpa using hle)
   subst this
   exact x h (by simpa using w)
  ·cases j
   rw [w.eq]
   refine H5 (ys.map (bH k)) pre.length 0 (pre++xs.map (bH k)++post) (by simp;omega) (fun v r=>?_) ?_
   ·obtain ⟨u,_,rfl⟩:=List.mem_map.1 r;rfl
   ·refine x _ ⟨w.free,?_,?_⟩
    ·congr 3
     unfold J8
     rw [eI,bF pre,cP rfl,dV]
     rw [eQ,aX (show pre.length<=pre.length+ys.length by omega),cG,cA]
     rw [cZ (by simpa using hle),<- List.map_drop,dB]
     simp only [bF]
    ·right;rfl
def A4u{P:dD}{nm:String}{x y c:Int}(hc:0<=c/\c<=1){f:Nat × Nat × Nat->dZ}:My P (Extern.MathBitsCarry.three nm #[U x,U y,U c] >>= fun p=>pure (f p))=some (f (x.toNat,y.toNat,c.toNat)):=by
 obtain rfl|rfl:c=0\/c=1:=by omega
 ·rfl
 ·rfl
def A9g:aT=18446744073709551616:=by decide
def Es{h:bJ}{K:VP}{x y c:Int}(hx:0<=x/\x<18446744073709551616)(hy:0<=y/\y<18446744073709551616)(hc:0<=c/\c<=1)(hK:K (.tuple #[U ((x+y+c)%18446744073709551616),U ((x+y+c)/18446744073709551616)]) h):ECall prog Ai #[U x,U y,U c] h K:=by
 refine B5g A7z (A4u (P:=prog) hc (f:=fun p=>fD ((p.1+p.2.1+p.2.2)%aT) ((p.1+p.2.1+p.2.2)/aT))) ?_
 have a:((x.toNat+y.toNat+c.toNat)%aT:Nat)=(((x+y+c)%18446744073709551616:Int)):=by
  rw [A9g]
  omega
 have b:((x.toNat+y.toNat+c.toNat)/aT:Nat)=(((x+y+c)/18446744073709551616:Int)):=by
  rw [A9g]
  omega
 show K (.tuple #[U ((x.toNat+y.toNat+c.toNat)%aT:Nat),U ((x.toNat+y.toNat+c.toNat)/aT:Nat)]) h
 rw [a,b];exact hK
def Dr{h:bJ}{K:VP}{x y c:Int}(hx:0<=x/\x<18446744073709551616)(hy:0<=y/\y<18446744073709551616)(hc:0<=c/\c<=1)(hK:K (.tuple #[U ((x-y-c)%18446744073709551616),U (if x-y-c<0 then 1 else 0)]) h):ECall prog Ah #[U x,U y,U c] h K:=by
 refine B5g A7y (A4u (P:=prog) hc (f:=fun p=>fD ((p.1+aT-p.2.1-p.2.2)%aT) (if p.1<p.2.1+p.2.2 then 1 else 0))) ?_
 have a:((x.toNat+aT-y.toNat-c.toNat)%aT:Nat)=(((x-y-c)%18446744073709551616:Int)):=by
  rw [A9g]
  omega
 have b:(((if x.toNat<y.toNat+c.toNat then 1 else 0:Nat):Nat):Int)=(if x-y-c<0 then 1 else 0):=by
  split<;>split<;>omega
 show K (.tuple #[U ((x.toNat+aT-y.toNat-c.toNat)%aT:Nat),U ((if x.toNat<y.toNat+c.toNat then 1 else 0:Nat):Nat)]) h
 rw [a,b];exact hK
def Cj(x y:Int):Int:=if x<y then -1 else if x>y then 1 else 0
def A97{h:bJ}{K:VP}{x:Int}(hK:K (.bool false) h):aY prog Hu #[I x] h K:=by
 refine A4k _ ?_
 unfold A61
 have:(x != x)=false:=by simp
 rw [this];exact hK
def A96{h:bJ}{K:VP}{x:Int}(hK:K (.bool false) h):aY prog Ag #[U x] h K:=by
 refine Uq _ ?_
 unfold Tv
 have:(x != x)=false:=by simp
 rw [this];exact hK
def A98{h:bJ}{K:VP}{x:Int}(hK:K (.bool false) h):aY prog Bz #[I x] h K:=by
 refine Zs _ ?_
 unfold Wu
 have:(x != x)=false:=by simp
 rw [this];exact hK
def Ss{h:bJ}{K:VP}{x y:Int}(hK:K (I (Cj x y)) h):aY prog Ld #[I x,I y] h K:=by
 refine B2b _ _ ?_
 unfold B6e
 refine A97 ⟨_,rfl,A97 ⟨_,rfl,?_⟩⟩
 unfold Cj at hK
 refine B4 (fun a=>?_) (fun a=>B4 (fun b=>?_) (fun b=>?_))
 ·rw [iP a] at hK;exact hK
 ·rw [iN a,iP b] at hK;exact hK
 ·rw [iN a,iN b] at hK;exact hK
def B08{h:bJ}{K:VP}{x y:Int}(hK:K (I (Cj x y)) h):aY prog Ji #[U x,U y] h K:=by
 refine A2f _ _ ?_
 unfold A2g
 refine A96 ⟨_,rfl,A96 ⟨_,rfl,?_⟩⟩
 unfold Cj at hK
 refine B4 (fun a=>?_) (fun a=>B4 (fun b=>?_) (fun b=>?_))
 ·rw [iP a] at hK;exact hK
 ·rw [iN a,iP b] at hK;exact hK
 ·rw [iN a,iN b] at hK;exact hK
def B0a{h:bJ}{K:VP}{x y:Int}(hK:K (I (Cj x y)) h):aY prog Nm #[I x,I y] h K:=by
 refine A4l _ _ ?_
 unfold A62
 refine A98 ⟨_,rfl,A98 ⟨_,rfl,?_⟩⟩
 unfold Cj at hK
 refine B4 (fun a=>?_) (fun a=>B4 (fun b=>?_) (fun b=>?_))
 ·rw [iP a] at hK;exact hK
 ·rw [iN a,iP b] at hK;exact hK
 ·rw [iN a,iN b] at hK;exact hK
def Kg{h:bJ}{K:VP}{x y:Int}(hx:0<=x/\x<18446744073709551616)(hy:0<=y/\y<18446744073709551616)(hK:K (.tuple #[U (x*y/18446744073709551616),U (x*y%18446744073709551616)]) h):aY prog Ek #[U x,U y] h K:=by
 refine B2c _ _ ?_
 unfold B6f
 rw [As hx,As hy]
 simp only [Tz]
 obtain ⟨e,c,d,b,a⟩:=A3i hx hy (x1:=x/4294967296) (x0:=x%4294967296) (y1:=y/4294967296) (y0:=y%4294967296) (by omega) (by omega) (by omega) (by omega)
 generalize x/4294967296*(y/4294967296)=p11 at *
 generalize x/4294967296*(y%4294967296)=p10 at *
 generalize x%4294967296*(y/4294967296)=p01 at *
 generalize x%4294967296*(y%4294967296)=p00 at *
 rw [B9 (n:=p00) (by omega) (by omega),B9 (n:=p10) (by omega) (by omega),B9 (n:=p01) (by omega) (by omega),B9 (n:=p11) (by omega) (by omega)]
 rw [B9 (n:=p10+p00/4294967296) (by omega) (by omega),As (by omega)]
 rw [B9 (n:=(p10+p00/4294967296)%4294967296+p01) (by omega) (by omega)]
 rw [B9 (n:=p11+(p10+p00/4294967296)/4294967296) (by omega) (by omega),B9 (by omega) (by omega),D8]
 have:p11+(p10+p00/4294967296)/4294967296+((p10+p00/4294967296)%4294967296+p01)/4294967296=x*y/18446744073709551616:=by
  rw [a];omega
 rw [this];exact hK
def O9{h:bJ}{K:VP}{x y c:Int}(hx:0<=x/\x<18446744073709551616)(hy:0<=y/\y<18446744073709551616)(hc:0<=c/\c<18446744073709551616)(hK:K (.tuple #[U ((x*y+c)%18446744073709551616),U ((x*y+c)/18446744073709551616)]) h):aY prog J2 #[U x,U y,U c] h K:=by
 have d:0<=x*y/\x*y<=18446744073709551615*18446744073709551615:=⟨aQ hx.1 hy.1,dG (by omega) (by omega) hy.1 (by decide)⟩
 refine Ti _ _ _ ?_
 unfold Oz
 refine Kg hx hy ⟨_,_,rfl,?_⟩
 refine Es (by omega) hc (by omega) ⟨_,_,rfl,?_⟩
 rw [B9 (by omega) (by omega)]
 have a:(x*y%18446744073709551616+c+0)%18446744073709551616=(x*y+c)%18446744073709551616:=by omega
 have b:x*y/18446744073709551616+(x*y%18446744073709551616+c+0)/18446744073709551616=(x*y+c)/18446744073709551616:=by omega
 rw [a,b];exact hK
def B7l(a:Array UInt8):({ data:=a }:ByteArray)=bs a.toList:=by simp [bs]
def A9h:List UInt8:=[0,1,2,2,3,3,3,3,4,4,4,4,4,4,4,4,5,5,5,5,5,5,5,5,5,5,5,5,5,5,5,5]++aE 32 6++aE 64 7++aE 128 8
def A6l:∀ i,i<256->(A9h[i]?).map UInt8.toNat=some (I9 i):=by decide
def Yy{x s:Nat}(h:2^s<=x):I9 x=s+I9 (x/2^s):=by
 have a:0<2^s:=cY (by decide)
 have b:x/2^s≠0:=by
  have:=Nat.div_pos h a;omega
 have:=Vu (l:=x%2^s) (t:=x/2^s) (j:=s) (eF _ a) b
 rw [Nat.mod_add_div] at this
 exact this
def Xu{h:bJ}{K:VP}{x:Nat}(hx:x<18446744073709551616)(hK:K (I (I9 x)) h):aY prog Lf #[U x] h K:=by
 refine B2d _ ?_
 unfold B6g
 have o:∀ (y s:Nat),s<=64->dH (y:Int) (2^(min ((s:Int)).toNat 64))=((y/2^s:Nat):Int):=by
  intro y s w
  rw [aC,aI w,fB _ (aL (bG (by decide)))]
  simp
 refine ⟨fun l d=>∃ (y n:Nat),l=[U y,I n]/\d=h/\y<4294967296/\I9 x=n+I9 y/\n<=32,B4 (fun i=>?_) (fun i=>?_),?_⟩
 ·refine ⟨x/2^32,32,?_,rfl,by omega,Yy (by omega),by omega⟩
  rw [show (32:Int)=((32:Nat):Int) from rfl,o x 32 (by omega)]
 ·exact ⟨x,0,rfl,rfl,by omega,by omega,by omega⟩
 rintro e g d ⟨y,n,b,rfl,j,a,r⟩
 obtain ⟨rfl,rfl⟩:e=(y:Int)/\g=(n:Int):=by simpa using b
 refine ⟨fun l q=>∃ (y n:Nat),l=[U y,I n]/\q=d/\y<65536/\I9 x=n+I9 y/\n<=48,B4 (fun i=>?_) (fun i=>?_),?_⟩
 ·refine ⟨y/2^16,n+16,?_,rfl,by omega,by rw [a,Yy (x:=y) (s:=16) (by omega)];omega,by omega⟩
  rw [show (16:Int)=((16:Nat):Int) from rfl,o y 16 (by omega),B6 (by omega) (by omega)];rfl
 ·exact ⟨y,n,rfl,rfl,by omega,a,by omega⟩
 clear a j b
 rintro e g d ⟨y,n,b,rfl,j,a,r⟩
 obtain ⟨rfl,rfl⟩:e=(y:Int)/\g=(n:Int):=by simpa using b
 refine ⟨fun l q=>∃ (y n:Nat),l=[U y,I n]/\q=d/\y<256/\I9 x=n+I9 y/\n<=56,B4 (fun i=>?_) (fun i=>?_),?_⟩
 ·refine ⟨y/2^8,n+8,?_,rfl,by omega,by rw [a,Yy (x:=y) (s:=8) (by omega)];omega,by omega⟩
  rw [show (8:Int)=((8:Nat):Int) from rfl,o y 8 (by omega),B6 (by omega) (by omega)];rfl
 ·exact ⟨y,n,rfl,rfl,by omega,a,by omega⟩
 clear a j b
 rintro e g d ⟨y,n,b,rfl,j,a,r⟩
 obtain ⟨rfl,rfl⟩:e=(y:Int)/\g=(n:Int):=by simpa using b
 rw [Ut (by omega) (by omega),aC]
 have m:=A6l y j
 cases hc:A9h[y]? with
 | none=>rw [hc] at m;cases m
 | some c=>
  rw [hc] at m
  have p:c.toNat=I9 y:=by simpa using m
  refine ⟨c,⟨by omega,?_⟩,?_⟩
  ·try unfold A55
   rw [B7l,Ij];exact hc
  ·have u:I9 y<=8:=Ep (k:=8) (by omega)
   rw [p,B6 (n:=((I9 y:Nat):Int)) (by omega) (by omega),B6 (by omega) (by omega),<- eV,<- a]
   exact hK
def O0{h:bJ}{K:VP}{x:Nat}(hx:x<18446744073709551616)(hK:K (I ((64-I9 x:Nat):Int)) h):aY prog H7 #[U x] h K:=by
 refine Mh _ ?_
 unfold Ha
 refine Xu hx ⟨_,rfl,?_⟩
 have a:I9 x<=64:=Ep (k:=64) (by omega)
 rw [B6 (by omega) (by omega)]
 have:(64:Int)-((I9 x:Nat):Int)=((64-I9 x:Nat):Int):=by omega
 rw [this];exact hK
def A1m{a b:Int}{s:Nat}(ha:0<=a)(hb:0<=b/\b<2^s)(hab:a*2^s+b<18446744073709551616):bor .u64 (a*2^s) b=a*2^s+b:=by
 have d:0<(2:Int)^s:=bG (by decide)
 have g:0<=a*2^s:=aQ ha (by omega)
 rw [A41 (by omega) (by omega)]
 have e:(a*2^s).toNat=2^s*a.toNat:=by
  rw [Int.toNat_mul ha (by omega),eG,fH (by decide)];rfl
 have c:b.toNat<2^s:=by
  have:((2^s:Nat):Int)=(2:Int)^s:=by simp
  omega
 rw [e,A50 c,<- e];omega
def W5{s:Nat}(hs:s<=64):(2:Int)^s*2^(64-s)=18446744073709551616:=by
 rw [<- aW,show s+(64-s)=64 by omega];decide
def B2f{x:Int}{s:Nat}(hs:s<=64):dH x (2^(min s 64))=x/2^s:=by
 rw [aI hs];exact fB x (aL (bG (by decide)))
def Est.exact{B top u2 v1 v2 U V:Int}(e:Est B 1 top u2 0 v1 v2 0 U V){q:Int}(h:q*(v1*B+v2)<=top*B+u2):q*V<=U:=by
 have a:=e.hU
 have c:=e.hV
 have b:U=top*B+u2:=by rw [a];omega
 have d:V=v1*B+v2:=by rw [c];omega
 rw [b,d];exact h
section
variable {h:bJ} {K:VP}
def B05{T u2 v1 v2 X Y:Int}{hp:bJ}{J:Int->bJ->Prop}(es:Est 4294967296 1 T u2 0 v1 v2 0 X Y)(_hT:T<18446744073709551616)
 (hJ:∀ q,0<=q->q*Y<=X->X<(q+1)*Y->J q hp):
 ∃ (Inv:Int->Int->bJ->Prop) (mu:Int->Int->bJ->Nat),Inv (T/v1) (T%v1) hp/\
  ∀ q r hp1,Inv q r hp1->(q>=4294967296->Inv q r hp1)/\0<=q/\q<=4294967297/\0<=r/\r<4294967296/\hp1=hp/\
   (q<4294967296->¬ (q*v2>4294967296*r+u2)->J q hp1)/\
   ((q>=4294967296\/q*v2>4294967296*r+u2)->1<=q/\(r+v1>=4294967296->J (q-1) hp1)/\(r+v1<4294967296->Inv (q-1) (r+v1) hp1/\mu (q-1) (r+v1) hp1<mu q r hp1)):=by
 obtain ⟨L,G⟩:=es.first
 have k:=es.init
 have z:=es.V0
 have A:=es.U0
 have B:=es.v1r
 have m:=es.v2r
 have F:=es.u2r
 have g:=es.top0
 have l:0<=T/v1:=bM g (by omega)
 have p:=aK T v1
 have n:=aR T (show v1≠0 by omega)
 have D:=aJ T (show 0<v1 by omega)
 refine ⟨fun q r hp1=>hp1=hp/\0<=q/\q<=4294967297/\0<=r/\r<4294967296/\q*v1+r=T/\X<(q+1)*Y,fun q _ _=>q.toNat,⟨rfl,l,by omega,n,by omega,by rw [aP];exact p,k⟩,?_⟩
 rintro q r hp1 ⟨rfl,i,x,y,u,d,e⟩
 have key:q*(v1*4294967296+v2)=(T-r)*4294967296+q*v2:=by rw [<- d];grind
 refine ⟨fun _=>⟨rfl,i,x,y,u,d,e⟩,i,x,y,u,rfl,fun j H=>hJ q i (es.exact (by omega)) e,fun c=>?_⟩
 have o:X<q*Y:=by
  rcases c with j|j
  ·exact es.big j
  ·exact es.low i (by omega)
 have s:1<=q:=by
  by_cases C:1<=q
  ·exact C
  ·have:q=0:=by omega
   subst this;omega
 have a:X<(q-1+1)*Y:=by rw [Int.sub_add_cancel];exact o
 have b:(q-1)*v1+(r+v1)=T:=by grind
 refine ⟨s,fun E=>?_,fun E=>⟨⟨rfl,by omega,by omega,by omega,by omega,b,a⟩,by show (q-1).toNat<q.toNat;omega⟩⟩
 have w:(q-1)*(v1*4294967296+v2)=(T-(r+v1))*4294967296+(q-1)*v2:=by rw [<- b];grind
 have j:(q-1)*v2<=4294967296*v2:=aD (by omega) m.1
 exact hJ (q-1) (by omega) (es.exact (by omega)) a
def Qi{hi lo:Int}{y:Nat}(hhi:0<=hi/\hi<y)(hlo:0<=lo/\lo<18446744073709551616)(hy:y<18446744073709551616)
 (hK:K (.tuple #[U ((hi*18446744073709551616+lo)/y),U ((hi*18446744073709551616+lo)%y)]) h):aY prog El #[U hi,U lo,U y] h K:=by
 refine B2e _ _ _ ?_
 unfold B6h
 refine D9 (fun e=>absurd e (by omega)) (fun _=>?_)
 refine B4 (fun e=>absurd e (by omega)) (fun _=>?_)
 refine D9 (fun e=>?_) (fun a2=>?_)
 ·refine B4 (fun e=>absurd e (by omega)) (fun _=>?_)
  refine B4 (fun e=>absurd e (by omega)) (fun _=>?_)
  subst e
  rw [dQ,cO] at hK
  rw [bB hlo.1,bW hlo.1,B9 (bM hlo.1 (by omega)) (cJ (dO _ hlo.1) hlo.2)]
  exact hK
 refine O0 hy ⟨_,rfl,?_⟩
 have O:y≠0:=by omega
 obtain ⟨bd,ba⟩:=Bj O
 have ax:I9 y<=64:=Ep (k:=64) (by omega)
 have bb:1<=I9 y:=by unfold I9;rw [iN O];omega
 obtain ⟨s,hs⟩:∃ s,s=64-I9 y:=⟨_,rfl⟩
 rw [<- hs]
 have aw:s<64:=by omega
 have m:0<(2:Int)^s:=bG (by decide)
 have C:=W5 (s:=s) (by omega)
 have am:0<(2:Int)^(64-s):=bG (by decide)
 have D:I9 y=64-s:=by omega
 have ap:(y:Int)<2^(64-s):=by
  rw [<- D]
  have:((y:Nat):Int)<((2^I9 y:Nat):Int):=by omega
  simpa using this
 have ao:(2:Int)^(63-s)<=y:=by
  have:((2^(I9 y-1):Nat):Int)<=((y:Nat):Int):=by omega
  rw [show I9 y-1=63-s by omega] at this
  simpa using this
 have Q:(2:Int)^s*2^(63-s)=9223372036854775808:=by
  rw [<- aW,show s+(63-s)=63 by omega];decide
 have al:B8 (s:Int)=(s:Int):=B9 (by omega) (by omega)
 have ad:B8 ((64:Int)-s)=((64-s:Nat):Int):=by rw [B9 (by omega) (by omega)];omega
 have S:(y:Int)*2^s<18446744073709551616:=by
  rw [<- C,aP];exact bX ap m
 have az:9223372036854775808<=(y:Int)*2^s:=by
  rw [<- Q,aP (y:Int)];exact aG ao (by omega)
 have eY:B8 ((y:Int)*2^(min s 64))=(y:Int)*2^s:=by rw [aI (by omega),B9 (by omega) S]
 have a7:hi*2^s+2^s<=(y:Int)*2^s:=by
  have:=aD (show hi+1<=(y:Int) by omega) (aL m)
  rw [Int.add_mul] at this;omega
 have N:0<=hi*2^s:=aQ hhi.1 (by omega)
 have aq:0<=lo/2^(64-s)/\lo/2^(64-s)<2^s:=by
  refine ⟨bM hlo.1 (by omega),bC am ?_⟩
  rw [C];exact hlo.2
 have eT:bor .u64 (B8 (hi*2^(min s 64))) (dH lo (2^(min (64-s) 64)))=hi*2^s+lo/2^(64-s):=by
  rw [aI (show s<=64 by omega),B9 N (by omega),B2f (by omega),A1m hhi.1 aq (by omega)]
 have eL:B8 (lo*2^(min s 64))=lo*2^s%18446744073709551616:=by rw [aI (by omega),D8]
 have a3:0<=lo*2^s%18446744073709551616/\lo*2^s%18446744073709551616<18446744073709551616:=⟨aR _ (by decide),aJ _ (by decide)⟩
 have hN:(hi*18446744073709551616+lo)*2^s=(hi*2^s+lo/2^(64-s))*18446744073709551616+lo*2^s%18446744073709551616:=by
  have d1:lo*2^s/18446744073709551616=lo/2^(64-s):=by
   rw [<- C,aP lo,Int.mul_ediv_mul_of_pos _ _ m]
  have d2:=aK (lo*2^s) 18446744073709551616
  rw [d1] at d2
  grind
 generalize hTT:hi*2^s+lo/2^(64-s)=T at *
 generalize hLL:lo*2^s%18446744073709551616=L at *
 generalize hYY:(y:Int)*2^s=Y at *
 have u:0<=T/\T<Y:=by omega
 unfold A2i A2k A2h A2j
 simp only [al,ad,aC,eY,eT,eL,Tz]
 rw [As (by omega),As (by omega)]
 have e1:Est 4294967296 1 T (L/4294967296) 0 (Y/4294967296) (Y%4294967296) 0 (T*4294967296+L/4294967296) Y:=
  ⟨by decide,by decide,by omega,by omega,by omega,by omega,by omega,by omega,u.1,by omega,by omega⟩
 refine B4 (fun e=>absurd e (by omega)) (fun _=>?_)
 refine B4 (fun e=>absurd e (by omega)) (fun _=>?_)
 refine B4 (fun e=>absurd e (by omega)) (fun _=>?_)
 refine B4 (fun e=>absurd e (by omega)) (fun _=>?_)
 refine B4 (fun e=>absurd e (by omega)) (fun _=>?_)
 have bm:∀ {q w:Int},0<=q->q<=4294967296->0<=w->w<4294967296->0<=q*w/\q*w<18446744073709551616:=by
  intro q w a b c d
  refine ⟨aQ a c,?_⟩
  have:=dG b (show w<=4294967295 by omega) c (by decide)
  omega
 refine ⟨fun l hp=>∃ q,l=[U q]/\hp=h/\0<=q/\q*Y<=T*4294967296+L/4294967296/\T*4294967296+L/4294967296<(q+1)*Y,?_,?_⟩
 ·obtain ⟨Inv,mu,i0,st⟩:=B05 (hp:=h) (J:=fun q hp=>∃ j,[U q]=[U j]/\hp=h/\0<=j/\j*Y<=T*4294967296+L/4294967296/\T*4294967296+L/4294967296<(j+1)*Y) e1 (by omega) (fun q a b c=>⟨q,rfl,rfl,a,b,c⟩)
  refine ⟨fun l hp=>∃ q r,l=[U q,U r]/\Inv q r hp,fun l hp=>mu (iAt l 0) (iAt l 1) hp,⟨T/(Y/4294967296),T%(Y/4294967296),?_,i0⟩,?_⟩
  ·have dm:=aK T (Y/4294967296)
   have V:=bM u.1 (show 0<=Y/4294967296 by omega)
   have d1:T/(Y/4294967296)<=T:=dO _ u.1
   have d2:=aR T (show Y/4294967296≠0 by omega)
   rw [bB u.1,B9 (n:=T/(Y/4294967296)) V (by omega),aP (T/(Y/4294967296))]
   have d3:=aQ (show 0<=Y/4294967296 by omega) V
   rw [B9 (n:=Y/4294967296*(T/(Y/4294967296))) d3 (by omega),B9 (by omega) (by omega)]
   have:T-Y/4294967296*(T/(Y/4294967296))=T%(Y/4294967296):=by omega
   rw [this]
  rintro q r o ⟨j,r',hl,hI⟩
  obtain ⟨rfl,rfl⟩:q=j/\r=r':=by simpa using hl
  obtain ⟨_,g,i,r0,r1,rfl,ok,A⟩:=st q r o hI
  have W:=bm (q:=4294967296) (w:=r) (by omega) (by omega) r0 r1
  refine ⟨fun l hp=>l=[]/\hp=o/\(q>=4294967296\/q*(Y%4294967296)>4294967296*r+L/4294967296),B4 (fun H=>⟨rfl,rfl,.inl H⟩) (fun H=>?_),?_⟩
  ·have Z:=bm (q:=q) (w:=Y%4294967296) g (by omega) (by omega) (by omega)
   rw [B9 Z.1 Z.2,B9 W.1 W.2,B9 (n:=4294967296*r+L/4294967296) (by omega) (by omega)]
   exact B4 (fun B=>⟨rfl,rfl,.inr B⟩) (fun B=>ok (by omega) B)
  ·rintro ai ⟨_,rfl,p⟩
   obtain ⟨g1,g2,M⟩:=A p
   rw [B9 (n:=r+Y/4294967296) (by omega) (by omega),B9 (n:=q-1) (by omega) (by omega)]
   exact B4 (fun X=>g2 X) (fun X=>⟨⟨_,_,rfl,(M (by omega)).1⟩,(M (by omega)).2⟩)
 rintro i G ⟨ac,ah,rfl,ag,a6,be⟩
 obtain rfl:i=ac:=by simpa using ah
 have av:i<4294967296:=by
  by_cases E:i<4294967296
  ·exact E
  ·have:=aD (show 4294967296<=i by omega) (show 0<=Y by omega);omega
 have bc:(i+1)*Y=i*Y+Y:=by grind
 have ay:0<=i*Y:=aQ ag (by omega)
 have ae:B8 (B8 (B8 (T*4294967296)+L/4294967296)-B8 (i*Y))=T*4294967296+L/4294967296-i*Y:=by
  simp only [D8];omega
 simp only [ae]
 generalize hRR:T*4294967296+L/4294967296-i*Y=R at *
 have x:0<=R/\R<Y:=by omega
 refine B4 (fun e=>absurd e (by omega)) (fun _=>?_)
 have e2:Est 4294967296 1 R (L%4294967296) 0 (Y/4294967296) (Y%4294967296) 0 (R*4294967296+L%4294967296) Y:=
  ⟨by decide,by decide,by omega,by omega,by omega,by omega,by omega,by omega,x.1,by omega,by omega⟩
 refine ⟨fun l hp=>∃ q,l=[U q]/\hp=G/\0<=q/\q*Y<=R*4294967296+L%4294967296/\R*4294967296+L%4294967296<(q+1)*Y,?_,?_⟩
 ·obtain ⟨Inv,mu,i0,st⟩:=B05 (hp:=G) (J:=fun q hp=>∃ j,[U q]=[U j]/\hp=G/\0<=j/\j*Y<=R*4294967296+L%4294967296/\R*4294967296+L%4294967296<(j+1)*Y) e2 (by omega) (fun q a b c=>⟨q,rfl,rfl,a,b,c⟩)
  refine ⟨fun l hp=>∃ q r,l=[U r,U q]/\Inv q r hp,fun l hp=>mu (iAt l 1) (iAt l 0) hp,⟨R/(Y/4294967296),R%(Y/4294967296),?_,i0⟩,?_⟩
  ·have dm:=aK R (Y/4294967296)
   have V:=bM x.1 (show 0<=Y/4294967296 by omega)
   have d1:R/(Y/4294967296)<=R:=dO _ x.1
   have d2:=aR R (show Y/4294967296≠0 by omega)
   rw [bB x.1,B9 (n:=R/(Y/4294967296)) V (by omega),aP (R/(Y/4294967296))]
   have d3:=aQ (show 0<=Y/4294967296 by omega) V
   rw [B9 (n:=Y/4294967296*(R/(Y/4294967296))) d3 (by omega),B9 (by omega) (by omega)]
   have:R-Y/4294967296*(R/(Y/4294967296))=R%(Y/4294967296):=by omega
   rw [this]
  rintro r q o ⟨j,r',hl,hI⟩
  obtain ⟨rfl,rfl⟩:r=r'/\q=j:=by simpa using hl
  obtain ⟨_,g,i,r0,r1,rfl,ok,A⟩:=st q r o hI
  have W:=bm (q:=4294967296) (w:=r) (by omega) (by omega) r0 r1
  refine ⟨fun l hp=>l=[]/\hp=o/\(q>=4294967296\/q*(Y%4294967296)>4294967296*r+L%4294967296),B4 (fun H=>⟨rfl,rfl,.inl H⟩) (fun H=>?_),?_⟩
  ·have Z:=bm (q:=q) (w:=Y%4294967296) g (by omega) (by omega) (by omega)
   rw [B9 Z.1 Z.2,B9 W.1 W.2,B9 (n:=4294967296*r+L%4294967296) (by omega) (by omega)]
   exact B4 (fun B=>⟨rfl,rfl,.inr B⟩) (fun B=>ok (by omega) B)
  ·rintro ai ⟨_,rfl,p⟩
   obtain ⟨g1,g2,M⟩:=A p
   rw [B9 (n:=r+Y/4294967296) (by omega) (by omega),B9 (n:=q-1) (by omega) (by omega)]
   exact B4 (fun X=>g2 X) (fun X=>⟨⟨_,_,rfl,(M (by omega)).1⟩,(M (by omega)).2⟩)
 rintro g a9 ⟨af,an,rfl,ab,a8,a4⟩
 obtain rfl:g=af:=by simpa using an
 refine B4 (fun e=>absurd e (by omega)) (fun _=>?_)
 have au:g<4294967296:=by
  by_cases E:g<4294967296
  ·exact E
  ·have:=aD (show 4294967296<=g by omega) (show 0<=Y by omega);omega
 have a5:(g+1)*Y=g*Y+Y:=by grind
 have a1:0<=g*Y:=aQ ab (by omega)
 have ar:B8 (B8 (B8 (R*4294967296)+L%4294967296)-B8 (g*Y))=R*4294967296+L%4294967296-g*Y:=by
  simp only [D8];omega
 rw [ar,B9 (n:=i*4294967296) (by omega) (by omega),B9 (n:=i*4294967296+g) (by omega) (by omega),B2f (by omega)]
 have a0:(hi*18446744073709551616+lo)*2^s=(i*4294967296+g)*(y*2^s)+(R*4294967296+L%4294967296-g*Y):=by
  rw [hN,hYY]
  have:T*18446744073709551616+L=(T*4294967296+L/4294967296)*4294967296+L%4294967296:=by omega
  rw [this]
  have:T*4294967296+L/4294967296=R+i*Y:=by omega
  rw [this];grind
 have F:R*4294967296+L%4294967296-g*Y=(hi*18446744073709551616+lo-(i*4294967296+g)*y)*2^s:=by grind
 rw [F,eD _ (show (2:Int)^s≠0 by omega)]
 have aj:0<=hi*18446744073709551616+lo-(i*4294967296+g)*y:=by
  by_cases E:0<=hi*18446744073709551616+lo-(i*4294967296+g)*y
  ·exact E
  ·have:=aD (show hi*18446744073709551616+lo-(i*4294967296+g)*y <= -1 by omega) (aL m);omega
 have ak:hi*18446744073709551616+lo-(i*4294967296+g)*y<y:=by
  by_cases E:hi*18446744073709551616+lo-(i*4294967296+g)*y<y
  ·exact E
  ·have:=aD (show (y:Int)<=hi*18446744073709551616+lo-(i*4294967296+g)*y by omega) (aL m);omega
 have z:(hi*18446744073709551616+lo)/y=i*4294967296+g:=by
  have:hi*18446744073709551616+lo=(hi*18446744073709551616+lo-(i*4294967296+g)*y)+(i*4294967296+g)*y:=by omega
  rw [this,dS _ _ (by omega),bK aj ak,cO]
 have aa:(hi*18446744073709551616+lo)%y=hi*18446744073709551616+lo-(i*4294967296+g)*y:=by
  rw [Int.emod_def,z,aP (y:Int)]
 rw [z,aa] at hK
 exact hK
end
def L6{xs:List Int}(d:Dig b64 xs)(i:Nat):0<=xs.getD i 0/\xs.getD i 0<18446744073709551616:=d.getD (by decide) i
def Dw(c:Int):0<=c%18446744073709551616/\c%18446744073709551616<b64:=⟨aR _ (by decide),aJ _ (by decide)⟩
section
variable {h g:bJ} {K:VP} {A B:Option bN} {ac bc:Nat}
def Cp{xs:List Int}(s:SlI .u64 h A xs)(hc:xs.length<=ac)(hl:xs.length<=10000000000)(hK:∀ m,m<=xs.length->Norm (xs.take m)->val b64 (xs.take m)=val b64 xs->K (.slice A m ac) h):aY prog H3 #[.slice A xs.length ac] h K:=by
 refine B49 _ _ _ ?_
 unfold C01
 refine ⟨fun l n=>∃ m:Nat,l=[I m]/\m<=xs.length/\n=h/\val b64 (xs.take m)=val b64 xs,fun l _=>(iAt l 0).toNat,⟨xs.length,rfl,bD _,rfl,by rw [aV]⟩,?_⟩
 rintro p o ⟨m,c,g,rfl,d⟩
 obtain rfl:=sI1 c
 refine B4 (fun k=>?_) (fun k=>?_)
 ·obtain ⟨j,rfl⟩:∃ j,m=j+1:=⟨m-1,by omega⟩
  have e:B5 (((j+1:Nat):Int)-1)=(j:Int):=by rw [B6 (by omega) (by omega)];omega
  rw [e]
  have b:=K8 b64 (xs:=xs) (i:=j) (by omega)
  refine s.load rfl (by omega) (by omega) ?_
  rw [aC]
  refine D9 (fun a=>?_) (fun a=>?_)
  ·exact ⟨⟨j,rfl,by omega,rfl,by rw [a] at b;omega⟩,by simp only [iAt,aH];omega⟩
  ·refine ⟨⟨by omega,by omega⟩,?_⟩
   rw [H1,aC,bV,bV]
   refine hK (j+1) g ?_ d
   rw [Fo (by omega)];exact A0y a
 ·have:m=0:=by omega
  subst this
  refine ⟨⟨by omega,by omega⟩,?_⟩
  rw [H1,aC,bV,bV]
  exact hK 0 (by omega) Norm.nil d
def M0{xs:List Int}(s:SlI .u64 h A xs)(hd:Dig b64 xs)(hc:xs.length<=ac)(hl:xs.length<=10000000000)(hK:∀ m,m<=xs.length->Mw h A m (val b64 xs)->K (.slice A m ac) h):aY prog H3 #[.slice A xs.length ac] h K:=by
 refine Cp s hc hl ?_
 intro m a b d
 refine hK m a ⟨xs.take m,by simp;omega,?_,hd.take m,b,d⟩
 have:=s.cut (c:=ac) (l:=0) (m:=m) (by omega) a hc
 simpa [H1] using this
def Ac{w:Int}(hw:0<=w/\w<18446744073709551616)(hK:∀ A m c h',h.le h'->m<=c->Mw h' A m w->K (.slice A m c) h'):aY prog U2 #[U w] h K:=by
 refine A20 _ ?_
 unfold A21
 refine D9 (fun e=>?_) (fun e=>?_)
 ·subst e;exact hK none 0 0 h (B3 h) (bD _) Mag.zero
 ·refine Y4 O8 rfl ?_
  intro b a
  exact ⟨_,_,_,rfl,hK _ _ _ _ (Heap.le_put _ a) (bD _) ⟨[w],rfl,SlI.new h b [w] C0 _,Dig.one hw,by simpa [Norm] using e,S9 _ _⟩⟩
def G8{x y:Int}{an bn:Nat}(ma:Mw h A an x)(mb:Mw h B bn y)(hl:an<=10000000000)(hK:K (I (Cj x y)) h):aY prog F3 #[.slice A an ac,.slice B bn bc] h K:=by
 obtain ⟨a,rfl,s,g,w,rfl⟩:=ma
 obtain ⟨b,rfl,u,m,C,rfl⟩:=mb
 refine Pq _ _ _ _ _ _ ?_
 unfold Lv
 refine N8 (fun z=>?_) (fun z=>?_)
 ·refine Ss ⟨_,rfl,?_⟩
  have:Cj (a.length:Int) (b.length:Int)=Cj (val b64 a) (val b64 b):=by
   unfold Cj
   by_cases p:a.length<b.length
   ·have:=Hh (by decide) g m C p
    rw [iP (by omega),iP this]
   ·have:=Hh (by decide) m g w (by omega)
    rw [iN (by omega),iP (by omega),iN (by omega),iP (by omega)]
  rw [this];exact hK
 ·have d:a.length=b.length:=by omega
  refine ⟨fun l D=>∃ k:Nat,l=[I ((k:Int)-1)]/\k<=a.length/\D=h/\a.drop k=b.drop k,fun l _=>(iAt l 0+1).toNat,⟨a.length,?_,bD _,rfl,?_⟩,?_⟩
  ·rw [B6 (by omega) (by omega)]
  ·rw [eP,d,eP]
  rintro i E ⟨k,o,F,rfl,c⟩
  obtain rfl:i=(k:Int)-1:=by simpa using o
  refine B4 (fun p=>?_) (fun p=>?_)
  ·obtain ⟨j,rfl⟩:∃ j,k=j+1:=⟨k-1,by omega⟩
   have e:((j+1:Nat):Int)-1=(j:Int):=by omega
   rw [e]
   refine s.load rfl (by omega) (by omega) ?_
   refine u.load rfl (by omega) (by omega) ?_
   rw [aC]
   refine N8 (fun r=>?_) (fun r=>?_)
   ·refine s.load rfl (by omega) (by omega) ?_
    refine u.load rfl (by omega) (by omega) ?_
    rw [aC]
    refine B08 ⟨_,rfl,B3 _,?_⟩
    have:Cj (a.getD j 0) (b.getD j 0)=Cj (val b64 a) (val b64 b):=by
     unfold Cj
     by_cases n:a.getD j 0<b.getD j 0
     ·have:=Hg (by decide) g m (i:=j) (by omega) (by omega) c n
      rw [iP n,iP this]
     ·have:=Hg (by decide) m g (i:=j) (by omega) (by omega) c.symm (by omega)
      rw [iN n,iP (by omega),iN (by omega),iP (by omega)]
    rw [this];exact hK
   ·rw [B6 (by omega) (by omega)]
    refine ⟨⟨j,rfl,by omega,rfl,?_⟩,by simp only [iAt,aH];omega⟩
    rw [fC (show j<a.length by omega),fC (show j<b.length by omega),c]
    congr 1
    simpa [cK,show j<a.length by omega,show j<b.length by omega] using r
  ·have q:k=0:=by omega
   subst q
   simp at c
   subst c
   have:Cj (val b64 a) (val b64 a)=0:=by unfold Cj;rw [iN (by omega),iN (by omega)]
   rw [this] at hK;exact hK
def Dg{xs:List Int}{an:Nat}(s:SlI .u64 h A xs)(hn:an=xs.length)(hl:xs.length<=10000000000)(hK:∀ A' c' h' g',h.le g'->Priv h' g' C0 1 A' xs.length c' (xs.map (bH .u64))->K (.slice A' xs.length c') h'):aY prog Eb #[.slice A an ac] h K:=by
 subst hn
 refine B0u _ _ _ ?_
 unfold B5o
 refine Br.of (fun e=>?_) (fun e=>?_)
 ·have j:A=none:=by simpa using e
  have l:xs=[]:=by
   rcases s with i|⟨a,g,_⟩
   ·simpa using i
   ·rw [j] at g;cases g
  subst l
  exact hK none 0 h h (B3 h) (by simpa using Priv.nil _ _ _ _)
 ·refine Rf O8 ?_
  intro b m
  refine ⟨_,_,_,rfl,?_⟩
  have c:=Heap.le_put (h:=h) (b:=b) (.cells #[] C0) m
  refine Ll O8 (Priv.nil _ _ _ _) (ys:=xs.map (bH .u64)) (by simp) (SlI.mono c s) (fun v k=>?_) (by omega) (by omega) ?_
  ·obtain ⟨a,_,rfl⟩:=List.mem_map.1 k;rfl
  ·intro A' c' h' g' n d
   simp only [fJ,cA] at d ⊢
   exact ⟨_,_,_,rfl,hK _ _ _ _ (A0 c n) d⟩
variable {b:Nat} {e:cH} {pre post:List dZ}
def Gt{xs ys:List Int}{an bn:Nat}(w:Win .u64 h g b e A pre xs post)(hn:an=xs.length)(sy:SlI .u64 g B ys)(hm:bn=ys.length)(dx:Dig b64 xs)(dy:Dig b64 ys)(hle:ys.length<=xs.length)(hfit:val b64 xs+val b64 ys<b64^xs.length)(hl:xs.length<=10000000000)
 (hK:∀ xs' h',xs'.length=xs.length->Dig b64 xs'->val b64 xs'=val b64 xs+val b64 ys->Win .u64 h' g b e A pre xs' post->K (.tuple #[]) h'):aY prog Q7 #[.slice A an ac,.slice B bn bc] h K:=by
 subst hn hm
 refine A49 _ _ _ _ _ _ ?_
 unfold A5s
 refine ⟨fun l x=>∃ (k:Nat) (c:Int) (zs:List Int),l=[U c,I k]/\k<=ys.length/\zs.length=xs.length/\Dig b64 zs/\(0<=c/\c<=1)/\Win .u64 x g b e A pre zs post/\zs.drop k=xs.drop k/\val b64 (zs.take k)+c*b64^k=val b64 (xs.take k)+val b64 (ys.take k),fun l _=>ys.length-(iAt l 1).toNat,⟨0,0,xs,rfl,by omega,rfl,dx,by omega,w,rfl,by simp [val]⟩,?_⟩
 rintro c i x ⟨k,E,zs,u,M,d,q,C,m,j,z⟩
 obtain ⟨rfl,rfl⟩:c=E/\i=(k:Int):=by simpa using u
 refine B4 (fun D=>?_) (fun D=>?_)
 ·have Q:=L6 dy k
  have G:=L6 q k
  have r:=E2 j
  have J:=C2 b64 xs k
  have O:=C2 b64 ys k
  refine (sy.mono m.le).load rfl (by omega) (by omega) ?_
  refine m.sl.load d.symm (by omega) (by omega) ?_
  simp only [aC]
  refine Es G Q C ⟨_,_,rfl,?_⟩
  obtain ⟨a,y,_⟩:=SlV.at m.sl (i:=k) (by simp;omega)
  refine ⟨a,y,by omega,by omega,m.storeN F0 y (by omega) ?_⟩
  intro h' F
  rw [B6 (n:=(k:Int)+1) (by omega) (by omega)]
  refine ⟨⟨k+1,_,_,rfl,by omega,by simpa using d,q.set (Dw _),by omega,F,?_,?_⟩,by simp only [iAt,aH,aO];omega⟩
  ·rw [D3 (by omega)];exact D7 j
  ·rw [C6 (by omega),E5,aF,aI (by omega),aZ,Ao,J,O,<- r]
   grind
 ·have s:k=ys.length:=by omega
  subst s
  rw [aV] at z
  refine ⟨fun l x=>∃ (k:Nat) (c:Int) (zs:List Int),l=[U c,I k]/\ys.length<=k/\k<=xs.length/\zs.length=xs.length/\Dig b64 zs/\(0<=c/\c<=1)/\Win .u64 x g b e A pre zs post/\zs.drop k=xs.drop k/\val b64 (zs.take k)+c*b64^k=val b64 (xs.take k)+val b64 ys,fun l _=>xs.length-(iAt l 1).toNat,⟨ys.length,c,zs,rfl,by omega,by omega,d,q,C,m,j,z⟩,?_⟩
  clear z j m q d C M D
  rintro c i x ⟨k,E,zs,u,R,M,d,q,C,m,j,z⟩
  obtain ⟨rfl,rfl⟩:c=E/\i=(k:Int):=by simpa using u
  have p:=E7 b64 zs (i:=k) (by omega)
  have o:=E7 b64 xs (i:=k) (by omega)
  refine N8 (fun N=>B4 (fun D=>?_) (fun D=>?_)) (fun N=>?_)
  ·have G:=L6 q k
   have r:=E2 j
   have J:=C2 b64 xs k
   refine m.sl.load d.symm (by omega) (by omega) ?_
   simp only [aC]
   refine Es G (by omega) C ⟨_,_,rfl,?_⟩
   obtain ⟨a,y,_⟩:=SlV.at m.sl (i:=k) (by simp;omega)
   refine ⟨a,y,by omega,by omega,m.storeN F0 y (by omega) ?_⟩
   intro h' F
   rw [B6 (n:=(k:Int)+1) (by omega) (by omega)]
   refine ⟨⟨k+1,_,_,rfl,by omega,by omega,by simpa using d,q.set (Dw _),by omega,F,?_,?_⟩,by simp only [iAt,aH,aO];omega⟩
   ·rw [D3 (by omega)];exact D7 j
   ·rw [C6 (by omega),E5,aF,aI (by omega),aZ,Ao,J,<- r]
    grind
  ·exfalso
   have s:k=xs.length:=by omega
   subst s
   have H:c=1:=by omega
   subst H
   rw [aV] at z
   have:=C5 (by decide) (q.take xs.length)
   omega
  ·have L:c=0:=by omega
   subst L
   refine hK zs x d q ?_ m
   rw [p,o,j];omega
def Mo{xs ys:List Int}{an bn:Nat}(w:Win .u64 h g b e A pre xs post)(hn:an=xs.length)(sy:SlI .u64 g B ys)(hm:bn=ys.length)(dx:Dig b64 xs)(dy:Dig b64 ys)(hle:ys.length<=xs.length)(hfit:val b64 ys<=val b64 xs)(hl:xs.length<=10000000000)
 (hK:∀ xs' h',xs'.length=xs.length->Dig b64 xs'->val b64 xs'=val b64 xs-val b64 ys->Win .u64 h' g b e A pre xs' post->K (.tuple #[]) h'):aY prog Bb #[.slice A an ac,.slice B bn bc] h K:=by
 subst hn hm
 refine Pk _ _ _ _ _ _ ?_
 unfold Ln
 have key:∀ {z y c:Int},(0<=z/\z<18446744073709551616)->(0<=y/\y<18446744073709551616)->(0<=c/\c<=1)->(z-y-c)%18446744073709551616=z-y-c+18446744073709551616*(if z-y-c<0 then 1 else 0):=by
  intro z y c V W r;split<;>omega
 refine ⟨fun l D=>∃ (k:Nat) (c:Int) (zs:List Int),l=[U c,I k]/\k<=ys.length/\zs.length=xs.length/\Dig b64 zs/\(0<=c/\c<=1)/\Win .u64 D g b e A pre zs post/\zs.drop k=xs.drop k/\val b64 (zs.take k)=val b64 (xs.take k)-val b64 (ys.take k)+c*b64^k,fun l _=>ys.length-(iAt l 1).toNat,⟨0,0,xs,rfl,by omega,rfl,dx,by omega,w,rfl,by simp [val]⟩,?_⟩
 rintro c i D ⟨k,H,zs,C,O,d,q,r,m,j,u⟩
 obtain ⟨rfl,rfl⟩:c=H/\i=(k:Int):=by simpa using C
 refine B4 (fun G=>?_) (fun G=>?_)
 ·have Q:=L6 dy k
  have F:=L6 q k
  have s:=E2 j
  have M:=C2 b64 xs k
  have S:=C2 b64 ys k
  refine (sy.mono m.le).load rfl (by omega) (by omega) ?_
  refine m.sl.load d.symm (by omega) (by omega) ?_
  simp only [aC]
  refine Dr F Q r ⟨_,_,rfl,?_⟩
  obtain ⟨a,E,_⟩:=SlV.at m.sl (i:=k) (by simp;omega)
  refine ⟨a,E,by omega,by omega,m.storeN F0 E (by omega) ?_⟩
  intro h' J
  rw [B6 (n:=(k:Int)+1) (by omega) (by omega)]
  refine ⟨⟨k+1,_,_,rfl,by omega,by simpa using d,q.set (Dw _),by split<;>omega,J,?_,?_⟩,by simp only [iAt,aH,aO];omega⟩
  ·rw [D3 (by omega)];exact D7 j
  ·rw [C6 (by omega),E5,aF,aI (by omega),aZ,M,S,<- s,u,key F Q r]
   grind
 ·have x:k=ys.length:=by omega
  subst x
  rw [aV] at u
  refine ⟨fun l D=>∃ (k:Nat) (c:Int) (zs:List Int),l=[U c,I k]/\ys.length<=k/\k<=xs.length/\zs.length=xs.length/\Dig b64 zs/\(0<=c/\c<=1)/\Win .u64 D g b e A pre zs post/\zs.drop k=xs.drop k/\val b64 (zs.take k)=val b64 (xs.take k)-val b64 ys+c*b64^k,fun l _=>xs.length-(iAt l 1).toNat,⟨ys.length,c,zs,rfl,by omega,by omega,d,q,r,m,j,u⟩,?_⟩
  clear u j m q d r O G
  rintro c i D ⟨k,H,zs,C,T,O,d,q,r,m,j,u⟩
  obtain ⟨rfl,rfl⟩:c=H/\i=(k:Int):=by simpa using C
  have p:=E7 b64 zs (i:=k) (by omega)
  have o:=E7 b64 xs (i:=k) (by omega)
  refine N8 (fun R=>B4 (fun G=>?_) (fun G=>?_)) (fun R=>?_)
  ·have F:=L6 q k
   have s:=E2 j
   have M:=C2 b64 xs k
   refine m.sl.load d.symm (by omega) (by omega) ?_
   simp only [aC]
   refine Dr F (by omega) r ⟨_,_,rfl,?_⟩
   obtain ⟨a,E,_⟩:=SlV.at m.sl (i:=k) (by simp;omega)
   refine ⟨a,E,by omega,by omega,m.storeN F0 E (by omega) ?_⟩
   intro h' J
   rw [B6 (n:=(k:Int)+1) (by omega) (by omega)]
   refine ⟨⟨k+1,_,_,rfl,by omega,by omega,by simpa using d,q.set (Dw _),by split<;>omega,J,?_,?_⟩,by simp only [iAt,aH,aO];omega⟩
   ·rw [D3 (by omega)];exact D7 j
   ·rw [C6 (by omega),E5,aF,aI (by omega),aZ,M,<- s,u,key F (y:=0) (by omega) r]
    grind
  ·exfalso
   have x:k=xs.length:=by omega
   subst x
   have L:c=1:=by omega
   subst L
   rw [aV] at u
   have:=I5 (by decide) (q.take xs.length)
   rw [aF,aI (by omega)] at this
   omega
  ·have N:c=0:=by omega
   subst N
   refine hK zs D d q ?_ m
   rw [p,o,j];omega
def Yz{x y:Int}{an bn:Nat}(ma:Mw h A an x)(mb:Mw h B bn y)(hab:bn<=an)(hl:an<=4000000000)(hb0:bn≠0)(hK:∀ A' m c' h',h.le h'->m<=c'->Mw h' A' m (x+y)->K (.slice A' m c') h'):
 wpH prog (Instr.makeSlice Bn (I (B5 ((an:Int)+1))) (I (B5 ((an:Int)+1)))) (fun v hp1=>∃ (t20A:Option bN) (t20n:Nat) (t20c:Nat),v= .slice t20A t20n t20c/\∀ ty,wpH prog (dL #[Bn,Bn] ty #[.slice t20A t20n t20c,.slice A an ac]) (fun v1 hp2=>∃ (t23:Int),v1=I t23/\aY prog Q7 #[.slice t20A t20n t20c,.slice B bn bc] hp2 (fun r hp3=>r= .tuple #[]/\aY prog H3 #[.slice t20A t20n t20c] hp3 (fun r1 hp4=>∃ (t28A:Option bN) (t28n:Nat) (t28c:Nat),r1= .slice t28A t28n t28c/\K (.slice t28A t28n t28c) hp4))) hp1) h:=by
 obtain ⟨a,rfl,D,l,J,rfl⟩:=ma
 obtain ⟨N,rfl,G,n,M,rfl⟩:=mb
 have C:B5 ((a.length:Int)+1)=((a.length+1:Nat):Int):=by rw [B6 (by omega) (by omega)];omega
 rw [C]
 refine I3 O8 (by omega) (by omega) (by omega) ?_
 intro b H
 rw [aC]
 refine ⟨_,_,_,rfl,fun ty=>?_⟩
 have p:=Win.blk .u64 C0 H (aE (a.length+1) 0)
 refine Eo O8 p (by simp) (SlI.mono p.le D) rfl (by simp) ?_
 intro L o
 refine ⟨_,rfl,?_⟩
 have c:(aE (a.length+1) (0:Int)).drop a.length=[0]:=by rw [bA];simp [cG]
 rw [c] at o
 have d:val b64 (a++[0])=val b64 a:=by rw [E5];omega
 have E:=I5 (by decide) l
 have z:=I5 (by decide) n
 have w:=D5 (B:=b64) (by decide) hab
 have i:b64^(a.length+1)=b64^a.length*18446744073709551616:=aZ _ _
 have F:=D6 (B:=b64) (by decide) a.length
 refine Gt o (by simp) G rfl (l.append (Dig.one (by decide))) n (by simp;omega) ?_ (by simp;omega) ?_
 ·rw [d,aN,List.length_singleton,i];omega
 intro zs O k g j q
 refine ⟨rfl,?_⟩
 have e:zs.length=a.length+1:=by rw [k];simp
 rw [<- e]
 refine M0 q.sl g (by omega) (by omega) ?_
 intro m u s
 rw [j,d] at s
 exact ⟨_,_,_,rfl,hK _ _ _ _ q.le u s⟩
def O4{x y:Int}{an bn:Nat}(ma:Mw h A an x)(mb:Mw h B bn y)(ha:an<=ac)(hb:bn<=bc)(hl:an<=4000000000)(hl2:bn<=4000000000)(hK:∀ A' m c' h',h.le h'->m<=c'->Mw h' A' m (x+y)->K (.slice A' m c') h'):aY prog L3 #[.slice A an ac,.slice B bn bc] h K:=by
 refine A24 _ _ _ _ _ _ ?_
 unfold A25
 refine ⟨fun l h'=>h'=h/\∃ (A1 B1:Option bN) (a d c1 c2:Nat) (j o:Int),l=[.slice A1 a c1,.slice B1 d c2]/\Mw h A1 a j/\Mw h B1 d o/\d<=a/\a<=4000000000/\a<=c1/\j+o=x+y,B4 (fun s=>?_) (fun s=>?_),?_⟩
 ·exact ⟨rfl,_,_,_,_,_,_,y,x,rfl,mb,ma,by omega,hl2,hb,dT _ _⟩
 ·exact ⟨rfl,_,_,_,_,_,_,x,y,rfl,ma,mb,by omega,hl,ha,rfl⟩
 ·rintro A1 a c1 B1 d c2 D ⟨rfl,A1',B1',g,c,i,b,j,o,k,r,q,z,p,n,e⟩
  obtain ⟨⟨rfl,rfl,rfl⟩,rfl,rfl,rfl⟩:(A1=A1'/\a=g/\c1=i)/\B1=B1'/\d=c/\c2=b:=by simpa using k
  rw [<- e] at hK
  refine D9 (fun w=>?_) (fun w=>?_)
  ·have:=(q.len_zero (by decide)).2 (by omega)
   subst this
   rw [eO] at hK
   exact hK _ _ _ _ (B3 _) n r
  ·refine He _ (Yz (ac:=c1) (bc:=c2) r q z p (by omega) hK) ?_
   rintro v h' ⟨A2,c,b,C,u⟩
   exact ⟨A2,c,b,C,u _⟩
def G0{x y:Int}{an bn:Nat}(ma:Mw h A an x)(mb:Mw h B bn y)(ha:an<=ac)(hl:an<=4000000000)(hxy:y<=x)(hK:∀ A' m c' h',h.le h'->m<=c'->Mw h' A' m (x-y)->K (.slice A' m c') h'):aY prog F5 #[.slice A an ac,.slice B bn bc] h K:=by
 have a:bn<=an:=mb.len_le (by decide) (cJ hxy (ma.lt (by decide)))
 refine Nt _ _ _ _ _ _ ?_
 unfold Il
 refine D9 (fun p=>?_) (fun p=>?_)
 ·have:=(mb.len_zero (by decide)).2 (by omega)
  subst this
  rw [Int.sub_zero] at hK
  exact hK _ _ _ _ (B3 _) ha ma
 ·obtain ⟨G,rfl,r,n,w,rfl⟩:=ma
  obtain ⟨E,rfl,s,o,D,rfl⟩:=mb
  refine Dg r rfl (by omega) ?_
  intro A1 c1 z C i d
  refine ⟨_,_,_,rfl,?_⟩
  obtain ⟨b,j,q⟩:=d.win (by rintro rfl;rw [List.length_nil] at a;omega)
  refine Mo q rfl (s.mono i) rfl n o a hxy (by omega) ?_
  intro zs F g c e k
  refine ⟨rfl,?_⟩
  rw [<- g]
  refine M0 k.sl c (by have:=d.2.1;omega) (by omega) ?_
  intro m u l
  rw [e] at l
  exact ⟨_,_,_,rfl,hK _ _ _ _ (A0 i k.le) (by have:=d.2.1;omega) l⟩
def Ta{zs xs:List Int}{an bn:Nat}{wd:Int}(w:Win .u64 h g b e A pre zs post)(hn:an=zs.length)(sx:SlI .u64 g B xs)(hm:bn=xs.length)(dz:Dig b64 zs)(dx:Dig b64 xs)(hle:zs.length=xs.length)(hw:0<=wd/\wd<18446744073709551616)(hl:xs.length<=10000000000)
 (hK:∀ zs' c h',zs'.length=zs.length->Dig b64 zs'->(0<=c/\c<18446744073709551616)->val b64 zs'+c*b64^zs.length=val b64 zs+val b64 xs*wd->Win .u64 h' g b e A pre zs' post->K (U c) h'):aY prog Ec #[.slice A an ac,.slice B bn bc,U wd] h K:=by
 subst hn hm
 refine Ul _ _ _ _ _ _ _ ?_
 unfold Tm
 refine ⟨fun l p=>∃ (k:Nat) (c:Int) (d:List Int),l=[U c,I k]/\k<=xs.length/\d.length=zs.length/\Dig b64 d/\(0<=c/\c<18446744073709551616)/\Win .u64 p g b e A pre d post/\d.drop k=zs.drop k/\val b64 (d.take k)+c*b64^k=val b64 (zs.take k)+val b64 (xs.take k)*wd,fun l _=>xs.length-(iAt l 1).toNat,⟨0,0,zs,rfl,by omega,rfl,dz,by omega,w,rfl,by simp [val]⟩,?_⟩
 rintro c i p ⟨k,F,d,u,L,j,r,z,m,o,y⟩
 obtain ⟨rfl,rfl⟩:c=F/\i=(k:Int):=by simpa using u
 refine B4 (fun E=>?_) (fun E=>?_)
 ·have C:=L6 dx k
  have H:=L6 r k
  have q:=E2 o
  have J:=C2 b64 xs k
  have D:=C2 b64 zs k
  have hm:0<=xs.getD k 0*wd/\xs.getD k 0*wd<=18446744073709551615*18446744073709551615:=⟨aQ C.1 hw.1,dG (by omega) (by omega) hw.1 (by decide)⟩
  refine (sx.mono m.le).load rfl (by omega) (by omega) ?_
  rw [aC]
  refine Kg C hw ⟨_,_,rfl,?_⟩
  generalize hmm:xs.getD k 0*wd=mm at *
  refine Es (by omega) z (by omega) ⟨_,_,rfl,?_⟩
  refine m.sl.load j.symm (by omega) (by omega) ?_
  rw [aC]
  refine Es H (by omega) (by omega) ⟨_,_,rfl,?_⟩
  obtain ⟨a,x,_⟩:=SlV.at m.sl (i:=k) (by simp;omega)
  refine ⟨a,x,by omega,by omega,m.storeN F0 x (by omega) ?_⟩
  intro h' G
  rw [B6 (n:=(k:Int)+1) (by omega) (by omega)]
  rw [B9 (n:=mm/18446744073709551616+(mm%18446744073709551616+c+0)/18446744073709551616) (by omega) (by omega)]
  rw [B9 (by omega) (by omega)]
  refine ⟨⟨k+1,_,_,rfl,by omega,by simpa using j,r.set (Dw _),by omega,G,?_,?_⟩,by simp only [iAt,aH,aO];omega⟩
  ·rw [D3 (by omega)];exact D7 o
  ·rw [C6 (by omega),E5,aF,aI (by omega),aZ,J,D,<- q]
   have key:(d.getD k 0+(mm%18446744073709551616+c+0)%18446744073709551616+0)%18446744073709551616+18446744073709551616*(mm/18446744073709551616+(mm%18446744073709551616+c+0)/18446744073709551616+(d.getD k 0+(mm%18446744073709551616+c+0)%18446744073709551616+0)/18446744073709551616)=d.getD k 0+mm+c:=by omega
   generalize (d.getD k 0+(mm%18446744073709551616+c+0)%18446744073709551616+0)%18446744073709551616=dg at *
   generalize mm/18446744073709551616+(mm%18446744073709551616+c+0)/18446744073709551616+(d.getD k 0+(mm%18446744073709551616+c+0)%18446744073709551616+0)/18446744073709551616=cn at *
   rw [<- hmm] at key
   grind
 ·have s:k=xs.length:=by omega
  subst s
  rw [aV,<- hle,aV,<- j,aV] at y
  exact hK d c p j r z (by rw [<- j];exact y) m
def Ia{zs xs:List Int}{an bn:Nat}{wd:Int}(w:Win .u64 h g b e A pre zs post)(hn:an=zs.length)(sx:SlI .u64 g B xs)(hm:bn=xs.length)(dz:Dig b64 zs)(dx:Dig b64 xs)(hle:zs.length=xs.length)(hw:0<=wd/\wd<18446744073709551616)(hl:xs.length<=10000000000)
 (hK:∀ zs' c h',zs'.length=zs.length->Dig b64 zs'->(0<=c/\c<18446744073709551616)->val b64 zs'=val b64 zs-val b64 xs*wd+c*b64^zs.length->Win .u64 h' g b e A pre zs' post->K (U c) h'):aY prog R6 #[.slice A an ac,.slice B bn bc,U wd] h K:=by
 subst hn hm
 refine Jj _ _ _ _ _ _ _ ?_
 unfold Ez
 refine ⟨fun l p=>∃ (k:Nat) (c:Int) (d:List Int),l=[U c,I k]/\k<=xs.length/\d.length=zs.length/\Dig b64 d/\(0<=c/\c<18446744073709551616)/\Win .u64 p g b e A pre d post/\d.drop k=zs.drop k/\val b64 (d.take k)=val b64 (zs.take k)-val b64 (xs.take k)*wd+c*b64^k,fun l _=>xs.length-(iAt l 1).toNat,⟨0,0,zs,rfl,by omega,rfl,dz,by omega,w,rfl,by simp [val]⟩,?_⟩
 rintro c i p ⟨k,F,d,x,L,j,r,z,m,o,s⟩
 obtain ⟨rfl,rfl⟩:c=F/\i=(k:Int):=by simpa using x
 refine B4 (fun E=>?_) (fun E=>?_)
 ·have C:=L6 dx k
  have H:=L6 r k
  have q:=E2 o
  have J:=C2 b64 xs k
  have D:=C2 b64 zs k
  have hm:0<=xs.getD k 0*wd/\xs.getD k 0*wd<=18446744073709551615*18446744073709551615:=⟨aQ C.1 hw.1,dG (by omega) (by omega) hw.1 (by decide)⟩
  refine (sx.mono m.le).load rfl (by omega) (by omega) ?_
  rw [aC]
  refine Kg C hw ⟨_,_,rfl,?_⟩
  generalize hmm:xs.getD k 0*wd=mm at *
  refine Es (by omega) z (by omega) ⟨_,_,rfl,?_⟩
  refine m.sl.load j.symm (by omega) (by omega) ?_
  rw [aC]
  refine Dr H (by omega) (by omega) ⟨_,_,rfl,?_⟩
  obtain ⟨a,y,_⟩:=SlV.at m.sl (i:=k) (by simp;omega)
  refine ⟨a,y,by omega,by omega,m.storeN F0 y (by omega) ?_⟩
  intro h' G
  rw [B6 (n:=(k:Int)+1) (by omega) (by omega)]
  rw [B9 (n:=mm/18446744073709551616+(mm%18446744073709551616+c+0)/18446744073709551616) (by omega) (by omega)]
  rw [B9 (by split<;>omega) (by split<;>omega)]
  refine ⟨⟨k+1,_,_,rfl,by omega,by simpa using j,r.set (Dw _),by split<;>omega,G,?_,?_⟩,by simp only [iAt,aH,aO];omega⟩
  ·rw [D3 (by omega)];exact D7 o
  ·rw [C6 (by omega),E5,aF,aI (by omega),aZ,J,D,<- q,s]
   have key:(d.getD k 0-(mm%18446744073709551616+c+0)%18446744073709551616-0)%18446744073709551616=d.getD k 0-mm-c+18446744073709551616*(mm/18446744073709551616+(mm%18446744073709551616+c+0)/18446744073709551616+(if d.getD k 0-(mm%18446744073709551616+c+0)%18446744073709551616-0<0 then 1 else 0)):=by split<;>omega
   rw [key]
   generalize mm/18446744073709551616+(mm%18446744073709551616+c+0)/18446744073709551616+(if d.getD k 0-(mm%18446744073709551616+c+0)%18446744073709551616-0<0 then 1 else 0)=cn at *
   rw [<- hmm]
   grind
 ·have u:k=xs.length:=by omega
  subst u
  rw [aV,<- hle,aV,<- j,aV] at s
  exact hK d c p j r z (by rw [<- j];exact s) m
end
def Vi{x z:Int}{s:Nat}(hs:s<=64)(_hx:0<=x/\x<18446744073709551616)(hz:0<=z/\z<(2:Int)^s):
 bor .u64 z (x*2^s%18446744073709551616)=z+x*2^s%18446744073709551616/\z+x*2^s%18446744073709551616<18446744073709551616/\x*2^s%18446744073709551616=2^s*(x%2^(64-s)):=by
 have k:=W5 hs
 have d:0<(2:Int)^s:=bG (by decide)
 have l:0<(2:Int)^(64-s):=bG (by decide)
 have a:z<18446744073709551616:=by
  have:(2:Int)^s*1<=2^s*2^(64-s):=aG (by omega) (by omega)
  omega
 have j:x*2^s%18446744073709551616=2^s*(x%2^(64-s)):=by
  rw [<- k,aP x,Int.mul_emod_mul_of_pos _ _ d]
 have c:=Dw (x*2^s)
 have g:0<=x%2^(64-s):=aR _ (by omega)
 have i:(x*2^s%18446744073709551616).toNat=2^s*(x%2^(64-s)).toNat:=by
  rw [j,Int.toNat_mul (by omega) g]
  rw [fH (by decide)];rfl
 have e:z.toNat<2^s:=by
  have:((2^s:Nat):Int)=(2:Int)^s:=by simp
  omega
 have b:bor .u64 z (x*2^s%18446744073709551616)=z+x*2^s%18446744073709551616:=by
  rw [A41 ⟨hz.1,a⟩ c,i,Nat.or_comm,A50 e,<- i]
  omega
 refine ⟨b,?_,j⟩
 rw [<- b,A41 ⟨hz.1,a⟩ c]
 have:z.toNat ||| (x*2^s%18446744073709551616).toNat<2^64:=Nat.or_lt_two_pow (by omega) (by have:=c.2;show _<_;omega)
 omega
def Fw(k:Nat):b64^k=(2:Int)^(64*k):=by
 rw [show b64=(2:Int)^64 by decide,<- Int.pow_mul]
section
variable {h g:bJ} {K:VP} {A B:Option bN} {ac bc:Nat}
def Q9{x:Int}{an s:Nat}(ma:Mw h A an x)(ha:an<=ac)(hl:an<=1000000000)(hs:s<=10000000000)(hK:∀ A' m c' h',h.le h'->m<=c'->Mw h' A' m (x*2^s)->K (.slice A' m c') h'):aY prog Q5 #[.slice A an ac,U s] h K:=by
 have z:=ma.len_zero (by decide)
 refine Za _ _ _ _ ?_
 unfold Vx
 refine D9 (fun Q=>?_) (fun Q=>D9 (fun j=>?_) (fun j=>?_))
 ·have:=z.2 (by omega)
  subst this
  rw [dQ] at hK
  exact hK _ _ _ _ (B3 _) ha ma
 ·have:s=0:=by omega
  subst this
  rw [fO,Int.mul_one] at hK
  exact hK _ _ _ _ (B3 _) ha ma
 ·obtain ⟨a,rfl,sx,M,nx,rfl⟩:=ma
  obtain ⟨k0,hk0⟩:∃ k0,k0=s/64:=⟨_,rfl⟩
  obtain ⟨r,hr⟩:∃ r,r=s%64:=⟨_,rfl⟩
  have ed:B5 (B8 (dE (s:Int) 64))=(k0:Int):=by
   rw [bB (by omega),B9 (by omega) (by omega),B6 (by omega) (by omega)];omega
  have R:Int.tmod (s:Int) 64=(r:Int):=by rw [bW (by omega)];omega
  have er:B8 ((64:Int)-(r:Int))=((64-r:Nat):Int):=by rw [B9 (by omega) (by omega)];omega
  simp only [ed,R,er,aC]
  have W:B5 (B5 ((a.length:Int)+k0)+1)=((a.length+k0+1:Nat):Int):=by rw [B6 (n:=(a.length:Int)+k0) (by omega) (by omega),B6 (by omega) (by omega)];omega
  rw [W]
  refine I3 O8 (by omega) (by omega) (by omega) ?_
  intro b J
  rw [aC]
  refine ⟨_,_,_,rfl,?_⟩
  have u:0<(2:Int)^r:=bG (by decide)
  have p:0<(2:Int)^(64-r):=bG (by decide)
  have g:=W5 (s:=r) (by omega)
  refine ⟨fun l h'=>∃ (k:Nat) (zs:List Int),l=[I k]/\k<=a.length/\zs.length=a.length+k0+1/\Dig b64 zs/\h'=blk .u64 C0 h b zs/\zs.drop (k+k0+1)=aE (a.length-k) 0/\zs.getD (k+k0) 0<2^r/\val b64 (zs.take (k+k0+1))=val b64 (a.take k)*2^s,fun l _=>a.length-(iAt l 0).toNat,⟨0,_,rfl,by omega,by simp,G4 (by decide) _,rfl,?_,?_,?_⟩,?_⟩
  ·rw [bA];congr 1;omega
  ·have:(aE (a.length+k0+1) (0:Int)).getD (0+k0) 0=0:=by simp [cK,List.getElem?_replicate];split<;>rfl
   rw [this];exact u
  ·rw [cF,Au];simp [val]
  rintro i hp ⟨k,zs,y,hk,c,o,rfl,F,hg,d⟩
  obtain rfl:=sI1 y
  have q:=S3 (k:=.u64) (e:=C0) J zs
  refine B4 (fun j=>?_) (fun j=>?_)
  ·have D:=L6 M k
   have Z:=L6 o (k+k0)
   have vx:=C2 b64 a k
   have L:=C2 b64 zs (k+k0)
   have e2:B5 ((k:Int)+k0)=((k+k0:Nat):Int):=by rw [B6 (by omega) (by omega)];omega
   have S:B5 (((k+k0:Nat):Int)+1)=((k+k0+1:Nat):Int):=by rw [B6 (by omega) (by omega)];omega
   rw [e2,S]
   refine (sx.mono q).load rfl (by omega) (by omega) ?_
   refine (Cd .u64 C0 h b zs).load c.symm (by omega) (by omega) ?_
   simp only [aC]
   refine B4 (fun e=>absurd e (by omega)) (fun _=>?_)
   refine ⟨_,rfl,by omega,by omega,?_⟩
   obtain ⟨T,o2,O⟩:=Vi (s:=r) (by omega) D ⟨Z.1,hg⟩
   rw [aI (show r<=64 by omega),D8,T,B2f (show 64-r<=64 by omega)]
   have X:=Dw (a.getD k 0*2^r)
   refine Dh (zs:=zs) (i:=k+k0) F0 (by first|omega|(rw [bL];omega)) ?_
   refine B4 (fun e=>absurd e (by omega)) (fun _=>?_)
   refine ⟨_,rfl,by omega,by omega,?_⟩
   refine Dh (zs:=zs.set (k+k0) (zs.getD (k+k0) 0+a.getD k 0*2^r%18446744073709551616)) (i:=k+k0+1) F0 (by first|omega|(rw [bL];omega)) ?_
   have G:0<=a.getD k 0/2^(64-r)/\a.getD k 0/2^(64-r)<2^r:=⟨bM D.1 (by omega),bC p (by rw [g];exact D.2)⟩
   have V:(2:Int)^r<=9223372036854775808:=by
    have:=D5 (B:=2) (by decide) (show r<=63 by omega)
    have e:(2:Int)^63=9223372036854775808:=by decide
    omega
   rw [B6 (n:=(k:Int)+1) (by omega) (by omega)]
   refine ⟨⟨k+1,(zs.set (k+k0) (zs.getD (k+k0) 0+a.getD k 0*2^r%18446744073709551616)).set (k+k0+1) (a.getD k 0/2^(64-r)),rfl,by omega,by simpa using c,(o.set ⟨by omega,o2⟩).set ⟨G.1,by show _<(18446744073709551616:Int);omega⟩,rfl,?_,?_,?_⟩,by simp only [iAt,aH];omega⟩
   ·rw [show k+1+k0+1=(k+k0+1)+1 by omega,D3 (by omega),D3 (by omega),<- cM,F,bA]
    congr 1
   ·rw [show k+1+k0=k+k0+1 by omega]
    have:((zs.set (k+k0) (zs.getD (k+k0) 0+a.getD k 0*2^r%18446744073709551616)).set (k+k0+1) (a.getD k 0/2^(64-r))).getD (k+k0+1) 0=a.getD k 0/2^(64-r):=by
     rw [cK,fN (by rw [bL];omega)];rfl
    rw [this];exact G.2
   ·rw [show k+1+k0+1=(k+k0+1)+1 by omega,C6 (by rw [bL];omega),E5,C6 (by omega),E5]
    simp only [aF,aN,List.length_singleton]
    rw [aI (show k+k0<=zs.length by omega),aZ,vx]
    rw [L] at d
    have C:(2:Int)^s=b64^k0*2^r:=by
     rw [Fw,<- aW];congr 1;omega
    have E:b64^(k+k0)=b64^k*b64^k0:=aW _ _ _
    have aa:=aK (a.getD k 0) (2^(64-r))
    have key:a.getD k 0*2^r%18446744073709551616+18446744073709551616*(a.getD k 0/2^(64-r))=a.getD k 0*2^r:=by
     rw [O,<- g,cD,<- cI]
     have:a.getD k 0%2^(64-r)+2^(64-r)*(a.getD k 0/2^(64-r))=a.getD k 0:=by omega
     rw [this,aP]
    generalize a.getD k 0*2^r%18446744073709551616=lo at *
    generalize a.getD k 0/2^(64-r)=hi at *
    rw [C] at d ⊢
    rw [E] at d ⊢
    have e5:(val b64 (a.take k)+b64^k*a.getD k 0)*(b64^k0*2^r)=val b64 (a.take k)*(b64^k0*2^r)+b64^k*b64^k0*(a.getD k 0*2^r):=by grind
    rw [e5,<- d,<- key]
    grind
  ·have w:k=a.length:=by omega
   subst w
   rw [aV,aM (by omega)] at d
   rw [<- c]
   refine M0 (Cd _ _ _ _ _) o (bD _) (by omega) ?_
   intro m N H
   rw [d] at H
   exact ⟨_,_,_,rfl,hK _ _ _ _ (S3 J _) N H⟩
def Et{x:Int}{an s:Nat}(ma:Mw h A an x)(hl:an<=1000000000)(hs:s<=1000000000000)(hK:∀ A' m c' h',h.le h'->m<=c'->Mw h' A' m (x/2^s)->K (.slice A' m c') h'):aY prog Ad #[.slice A an ac,U s] h K:=by
 have O:=ma.nonneg (by decide)
 have ad:=ma.lt (by decide)
 refine Ug _ _ _ _ ?_
 unfold Td
 obtain ⟨k0,hk0⟩:∃ k0,k0=s/64:=⟨_,rfl⟩
 obtain ⟨r,hr⟩:∃ r,r=s%64:=⟨_,rfl⟩
 have w:B8 (dE (s:Int) 64)=(k0:Int):=by
  rw [bB (by omega),B9 (by omega) (by omega)];omega
 have S:B5 (k0:Int)=(k0:Int):=B6 (by omega) (by omega)
 have em:Int.tmod (s:Int) 64=(r:Int):=by rw [bW (by omega)];omega
 have er:B8 ((64:Int)-(r:Int))=((64-r:Nat):Int):=by rw [B9 (by omega) (by omega)];omega
 have en:B8 (an:Int)=(an:Int):=B9 (by omega) (by omega)
 simp only [w,S,em,er,en,aC]
 have p:(2:Int)^s=b64^k0*2^r:=by
  rw [Fw,<- aW];congr 1;omega
 refine B4 (fun h1=>?_) (fun h1=>?_)
 ·have:x/2^s=0:=by
   apply bK O
   rw [p]
   have F:=D5 (B:=b64) (by decide) (show an<=k0 by omega)
   have t2:b64^k0*1<=b64^k0*2^r:=aG (by have:0<(2:Int)^r:=bG (by decide);omega) (aL (D6 (by decide) _))
   omega
  rw [this] at hK
  exact hK _ _ _ _ (B3 _) (bD _) Mag.zero
 ·obtain ⟨a,rfl,Z,q,nx,rfl⟩:=ma
  have H:B5 ((a.length:Int)-k0)=((a.length-k0:Nat):Int):=by rw [B6 (by omega) (by omega)];omega
  rw [H]
  refine I3 O8 (by omega) (by omega) (by omega) ?_
  intro b hb
  rw [aC]
  refine ⟨_,_,_,rfl,?_⟩
  have T:0<(2:Int)^r:=bG (by decide)
  have c:=W5 (s:=r) (by omega)
  have G:0<(2:Int)^(64-r):=bG (by decide)
  have ae:(a.drop k0).length=a.length-k0:=aS
  have o:∀ i,(a.drop k0).getD i 0=a.getD (k0+i) 0:=fun i=>A1d
  refine ⟨fun l h'=>∃ (k:Nat) (zs:List Int),l=[I k]/\k<=a.length-k0/\zs.length=a.length-k0/\Dig b64 zs/\h'=blk .u64 C0 h b zs/\2^r*val b64 (zs.take k)+(a.drop k0).getD 0 0%2^r=val b64 ((a.drop k0).take k)+b64^k*((a.drop k0).getD k 0%2^r),fun l _=>a.length-(iAt l 0).toNat,⟨0,_,rfl,by omega,by simp,G4 (by decide) _,rfl,by simp [val]⟩,?_⟩
  rintro i ab ⟨k,zs,L,hk,d,E,rfl,W⟩
  obtain rfl:=sI1 L
  have n:∀ zs,h.le (blk .u64 C0 h b zs):=fun zs=>S3 (k:=.u64) (e:=C0) hb zs
  have X:=L6 (q.drop k0) k
  refine B4 (fun h2=>?_) (fun h2=>?_)
  ·have e2:B5 ((k:Int)+k0)=((k0+k:Nat):Int):=by rw [B6 (by omega) (by omega)];omega
   have e3:B5 (((k0+k:Nat):Int)+1)=((k0+(k+1):Nat):Int):=by rw [B6 (by omega) (by omega)];omega
   rw [e2,e3]
   refine (Z.mono (n zs)).load rfl (by omega) (by omega) ?_
   refine B4 (fun e=>absurd e (by omega)) (fun _=>?_)
   refine ⟨_,rfl,by omega,by omega,?_⟩
   simp only [aC]
   rw [<- o k,B2f (show r<=64 by omega)]
   have j:0<=(a.drop k0).getD k 0/2^r:=bM X.1 (by omega)
   have R:(a.drop k0).getD k 0/2^r<2^(64-r):=by
    apply bC T
    rw [aP,c];exact X.2
   have V:(2:Int)^(64-r)<=18446744073709551616:=by
    rw [<- c]
    have:=aD (show 1<=(2:Int)^r by omega) (aL G);omega
   refine Dh (zs:=zs) (i:=k) F0 (by first|omega|(rw [bL];omega)) ?_
   have d1:Dig b64 (zs.set k ((a.drop k0).getD k 0/2^r)):=E.set ⟨j,by show _<(18446744073709551616:Int);omega⟩
   have l1:(zs.set k ((a.drop k0).getD k 0/2^r)).length=a.length-k0:=by rw [bL];exact d
   have g1:(zs.set k ((a.drop k0).getD k 0/2^r)).getD k 0=(a.drop k0).getD k 0/2^r:=by simp [cK,show k<zs.length by omega]
   have vr:=C2 b64 (a.drop k0) k
   have g:∀ z:Int,2^r*z=(a.drop k0).getD k 0-(a.drop k0).getD k 0%2^r+18446744073709551616*((a.drop k0).getD (k+1) 0%2^r)->
    2^r*val b64 ((zs.set k z).take (k+1))+(a.drop k0).getD 0 0%2^r=val b64 ((a.drop k0).take (k+1))+b64^(k+1)*((a.drop k0).getD (k+1) 0%2^r):=by
    intro z ez
    rw [C6 (by omega),E5,aF,aI (by omega),vr,aZ]
    have H:2^r*(val b64 (zs.take k)+b64^k*z)=2^r*val b64 (zs.take k)+b64^k*(2^r*z):=by grind
    rw [H,ez]
    grind
   have ag:=aK ((a.drop k0).getD k 0) (2^r)
   have u:B5 ((k:Int)+1)=((k+1:Nat):Int):=by rw [B6 (by omega) (by omega)];omega
   rw [u]
   refine B4 (fun h3=>?_) (fun h3=>?_)
   ·have ld:=(Cd .u64 C0 h b (zs.set k ((a.drop k0).getD k 0/2^r)))
    obtain ⟨aa,y,M⟩:=SlV.at ld (i:=k) (by simp;omega)
    refine ⟨aa,y,by omega,by omega,(a.drop k0).getD k 0/2^r,?_,?_⟩
    ·rw [eA,M]
     congr 1
     simp only [List.getElem_map]
     congr 1
     simp
    refine (Z.mono (n _)).load rfl (by omega) (by omega) ?_
    refine B4 (fun e=>absurd e (by omega)) (fun _=>?_)
    refine ⟨_,rfl,by omega,by omega,?_⟩
    simp only [aC]
    rw [<- o (k+1)]
    have gr:=L6 (q.drop k0) (k+1)
    obtain ⟨o1,o2,o3⟩:=Vi (s:=64-r) (by omega) gr ⟨j,R⟩
    rw [aI (show 64-r<=64 by omega),D8,o1]
    refine Dh (zs:=zs.set k ((a.drop k0).getD k 0/2^r)) (i:=k) F0 (by first|omega|(rw [bL];omega)) ?_
    rw [List.set_set]
    have af:=Dw ((a.drop k0).getD (k+1) 0*2^(64-r))
    refine ⟨⟨k+1,zs.set k ((a.drop k0).getD k 0/2^r+(a.drop k0).getD (k+1) 0*2^(64-r)%18446744073709551616),rfl,by omega,by simpa using d,E.set ⟨by omega,o2⟩,rfl,g _ ?_⟩,by simp only [iAt,aH];omega⟩
    rw [o3,show 64-(64-r)=r by omega,cI,<- cD,c]
    omega
   ·have C:(a.drop k0).getD (k+1) 0=0:=by simp only [cK,bZ (show (a.drop k0).length<=k+1 by omega)];rfl
    refine ⟨⟨k+1,zs.set k ((a.drop k0).getD k 0/2^r),rfl,by omega,l1,d1,rfl,g _ ?_⟩,by simp only [iAt,aH];omega⟩
    rw [C,fE,eJ,eO];omega
  ·have D:k=a.length-k0:=by omega
   subst D
   have C:(a.drop k0).getD (a.length-k0) 0=0:=by simp only [cK,bZ (show (a.drop k0).length<=a.length-k0 by omega)];rfl
   rw [C,fE,eJ,eO,aM (by omega),aM (by omega)] at W
   have J:=aR ((a.drop k0).getD 0 0) (show (2:Int)^r≠0 by omega)
   have N:=aJ ((a.drop k0).getD 0 0) T
   have Q:val b64 a/2^s=val b64 zs:=by
    have sp:=E7 b64 a (i:=k0) (by omega)
    have F:=I5 (by decide) (q.take k0)
    have t2:=C5 (by decide) (q.take k0)
    rw [aF,aI (by omega)] at F
    rw [p,<- dP (aL (D6 (by decide) _)),sp,dY _ _ (by have:=D6 (B:=b64) (by decide) k0;omega),bK t2 F,cO,<- W,dT,dY _ _ (by omega),bK J N,cO]
   rw [<- d]
   refine M0 (Cd _ _ _ _ _) E (bD _) (by omega) ?_
   intro m hm hM
   rw [<- Q] at hM
   exact ⟨_,_,_,rfl,hK _ _ _ _ (S3 hb _) hm hM⟩
end
def Bm(B:Int)(xs:List Int)(n:Nat):val B (xs++aE n 0)=val B xs:=by rw [H6,Au];omega
def Kf{xs:List Int}{k:Nat}(h:Norm xs)(hk:k<xs.length):Norm (xs.drop k):=by
 unfold Norm at *
 rwa [List.getLast?_drop,iN (by omega)]
def Mw.of{h:bJ}{A:Option bN}{xs:List Int}(s:SlI .u64 h A xs)(d:Dig b64 xs)(n:Norm xs):Mw h A xs.length (val b64 xs):=⟨xs,rfl,s,d,n,rfl⟩
def Yv{k:cV}{h:bJ}{A:Option bN}{xs:List Int}(s:SlI k h A xs){c l:Nat}(hl:l<=xs.length)(hc:xs.length<=c):SlI k h (J4 A c l 1) (xs.drop l):=by
 have:=s.cut (c:=c) (l:=l) (m:=xs.length) hl (bD _) hc
 rwa [aM (by rw [aS];omega)] at this
def Hv{k:cV}{h:bJ}{A:Option bN}{xs:List Int}(s:SlI k h A xs){c m:Nat}(hm:m<=xs.length)(hc:xs.length<=c):SlI k h A (xs.take m):=by
 have:=s.cut (c:=c) (l:=0) (m:=m) (by omega) hm hc
 simpa [H1] using this
def Hc{h:bJ}{K:VP}{A:Option bN}{ac n:Nat}{v:Int}{xs:List Int}(s:SlI .u64 h A xs)(hd:Dig b64 xs)(hn:n=xs.length)(hv:val b64 xs=v)(hc:n<=ac)(hl:n<=10000000000)(hK:∀ m,m<=n->Mw h A m v->K (.slice A m ac) h):aY prog H3 #[.slice A n ac] h K:=by
 subst hn hv
 exact M0 s hd hc hl hK
def C0l(N:Nat):Prop:=∀ {h:bJ} {K:VP} {A B:Option bN} {ac bc an bn:Nat} {x y:Int},an+bn<=N->Mw h A an x->Mw h B bn y->an<=ac->bn<=bc->an<=1000000000->bn<=1000000000->
 (∀ A' m c' h',h.le h'->m<=c'->Mw h' A' m (x*y)->K (.slice A' m c') h')->aY prog C9 #[.slice A an ac,.slice B bn bc] h K
section
variable {h g:bJ} {K:VP} {A B:Option bN} {ac bc:Nat}
def B95{xs ys:List Int}{b:Nat}(hb:h b=none)(sx:SlI .u64 h A xs)(dx:Dig b64 xs)(sy:SlI .u64 h B ys)(dy:Dig b64 ys)(hl:xs.length<=1000000000)(hl2:ys.length<=1000000000)
 (hK:∀ A' m c' h',h.le h'->m<=c'->Mw h' A' m (val b64 xs*val b64 ys)->K (.slice A' m c') h'):
 U5 prog K A xs.length ac B ys.length (some ⟨b,0,none⟩) (xs.length+ys.length) (xs.length+ys.length) (blk .u64 C0 h b (aE (xs.length+ys.length) 0)):=by
 unfold U5
 refine ⟨fun l D=>∃ (k:Nat) (zs:List Int),l=[I k]/\k<=ys.length/\zs.length=xs.length+ys.length/\Dig b64 zs/\Win .u64 D h b C0 (some ⟨b,0,none⟩) [] zs []/\zs.drop (k+xs.length)=aE (ys.length-k) 0/\val b64 (zs.take (k+xs.length))=val b64 xs*val b64 (ys.take k),fun l _=>ys.length-(iAt l 0).toNat,⟨0,_,rfl,by omega,by simp,G4 (by decide) _,Win.blk .u64 C0 hb _,?_,?_⟩,?_⟩
 ·rw [bA];congr 1;omega
 ·rw [cF,Au];simp [val]
 rintro i D ⟨k,zs,s,R,x,g,w,y,p⟩
 obtain rfl:=sI1 s
 refine B4 (fun G=>?_) (fun G=>?_)
 ·have O:=L6 dy k
  have L:=C2 b64 ys k
  have J:B5 ((k:Int)+xs.length)=((k+xs.length:Nat):Int):=by rw [B6 (by omega) (by omega)];omega
  rw [J]
  refine (sy.mono w.le).load rfl (by omega) (by omega) ?_
  simp only [aC]
  refine ⟨⟨by omega,by omega⟩,⟨by omega,by omega⟩,?_⟩
  have a:((zs.drop k).take (k+xs.length-k)).length=xs.length:=by rw [aF,aS];omega
  refine Ta (w.sub (l:=k) (m:=k+xs.length) (c:=xs.length+ys.length) (by omega) (by omega) (by omega)) (by rw [a];omega) sx rfl ((g.drop k).take _) dx a O (by omega) ?_
  intro j c h' d e Q u M
  rw [a] at d
  have N:=w.whole (l:=k) (m:=k+xs.length) (by omega) (by omega) (by omega) M
  refine ⟨_,rfl,_,rfl,by omega,by omega,?_⟩
  have q:(zs.take k++j++zs.drop (k+xs.length)).length=xs.length+ys.length:=by
   simp only [aN,aF,aS];omega
  refine N.storeN (i:=k+xs.length) F0 rfl (by omega) ?_
  intro S H
  rw [B6 (n:=(k:Int)+1) (by omega) (by omega)]
  have o:(zs.take k++j++zs.drop (k+xs.length)).take (k+xs.length)=zs.take k++j:=by
   apply cP
   simp only [aN,aF];omega
  have C:(zs.take k++j++zs.drop (k+xs.length)).drop (k+xs.length)=zs.drop (k+xs.length):=by
   apply dC
   simp only [aN,aF];omega
  refine ⟨⟨k+1,_,rfl,by omega,by rw [bL];exact q,(((g.take k).append e).append (g.drop _)).set Q,H,?_,?_⟩,by simp only [iAt,aH];omega⟩
  ·rw [show k+1+xs.length=(k+xs.length)+1 by omega,D3 (by omega),<- cM,C,y,bA]
   congr 1
  ·rw [show k+1+xs.length=(k+xs.length)+1 by omega,C6 (by omega),o,E5,H6,L]
   simp only [aN,aF]
   rw [aI (by omega),d,aW]
   have z:val b64 (zs.take (k+xs.length))=val b64 (zs.take k)+b64^k*val b64 ((zs.drop k).take (k+xs.length-k)):=by
    rw [show k+xs.length-k=xs.length by omega,List.take_add,H6,aF,aI (by omega)]
   rw [a] at u
   rw [z] at p
   grind
 ·have r:k=ys.length:=by omega
  subst r
  rw [aV,aM (by omega)] at p
  rw [<- x]
  refine M0 w.sl g (bD _) (by omega) ?_
  intro m F E
  rw [p] at E
  exact ⟨_,_,_,rfl,hK _ _ _ _ w.le F E⟩
def Na{x y:Int}{an bn N:Nat}(ih:C0l N)(hN:2*bn<=N)(ma:Mw h A an x)(mb:Mw h B bn y)(ha:an<=ac)(hbc:bn<=bc)(hl:an<=1000000000)(hb0:0<bn)(hba:bn<=an)(hK:∀ A' m c' h',h.le h'->m<=c'->Mw h' A' m (x*y)->K (.slice A' m c') h'):aY prog Bc #[.slice A an ac,.slice B bn bc] h K:=by
 have af:=mb.nonneg (by decide)
 have J:=mb.lt (by decide)
 obtain ⟨a,rfl,sx,Q,nx,rfl⟩:=ma
 refine Pl _ _ _ _ _ _ ?_
 unfold Lo
 have e1:B5 ((a.length:Int)+bn)=((a.length+bn:Nat):Int):=by rw [B6 (by omega) (by omega)];omega
 rw [e1]
 refine I3 O8 (by omega) (by omega) (by omega) ?_
 intro b hb
 rw [aC]
 refine ⟨_,_,_,rfl,?_⟩
 refine ⟨fun l C=>∃ (k:Nat) (zs:List Int) (g:bJ),l=[I k]/\k<=a.length+bn/\h.le g/\zs.length=a.length+bn/\Dig b64 zs/\Win .u64 C g b C0 (some ⟨b,0,none⟩) [] zs []/\val b64 zs=val b64 (a.take k)*y,fun l _=>a.length+bn-(iAt l 0).toNat,⟨0,_,h,rfl,by omega,B3 h,by simp,G4 (by decide) _,Win.blk .u64 C0 hb _,by rw [Au];simp [val]⟩,?_⟩
 rintro i C ⟨k,zs,g,ag,hk,R,al,z,w,hv⟩
 obtain rfl:=sI1 ag
 refine B4 (fun h1=>?_) (fun h1=>?_)
 ·have e2:B5 ((k:Int)+bn)=((k+bn:Nat):Int):=by rw [B6 (by omega) (by omega)];omega
  rw [e2]
  obtain ⟨en,hen⟩:∃ en,en=min a.length (k+bn):=⟨_,rfl⟩
  have e3:(if (a.length:Int)<((k+bn:Nat):Int) then (a.length:Int) else ((k+bn:Nat):Int))=(en:Int):=by split<;>omega
  rw [e3]
  simp only [aC]
  refine ⟨⟨by omega,by omega⟩,⟨by omega,by omega⟩,⟨by omega,by omega⟩,?_⟩
  have ai:((a.drop k).take (en-k)).length=en-k:=by rw [aF,aS];omega
  have sp:SlI .u64 g (J4 A ac k 1) ((a.drop k).take (en-k)):=(sx.mono R).cut (c:=ac) (l:=k) (m:=en) (by omega) (by omega) ha
  have dp:Dig b64 ((a.drop k).take (en-k)):=(Q.drop k).take _
  have av:=C5 (by decide) Q
  have O:∀ m,m<=en-k->Norm (((a.drop k).take (en-k)).take m)->val b64 (((a.drop k).take (en-k)).take m)=val b64 ((a.drop k).take (en-k))->
   aY prog C9 #[.slice (J4 A ac k 1) m (ac-k),.slice B bn bc] C (fun Z d=>∃ (t38A:Option bN) (t38n:Nat) (t38c:Nat),Z= .slice t38A t38n t38c/\Heap.le C d/\aY prog Q7 #[.slice (J4 (some ⟨b,0,none⟩) (a.length+bn) k 1) (a.length+bn-k) (a.length+bn-k),.slice t38A t38n t38c] d (fun T u=>T= .tuple #[]/\(∃ (k_1:Nat) (zs:List Int) (g:bJ),[I ((k+bn:Nat):Int)]=[I k_1]/\k_1<=a.length+bn/\h.le g/\zs.length=a.length+bn/\Dig b64 zs/\Win .u64 u g b C0 (some ⟨b,0,none⟩) [] zs []/\val b64 zs=val b64 (a.take k_1)*y)/\a.length+bn-(iAt [I ((k+bn:Nat):Int)] 0).toNat<a.length+bn-(iAt [I k] 0).toNat)):=by
   intro m W s p
   have Mp:Mw g (J4 A ac k 1) m (val b64 ((a.drop k).take (en-k))):=⟨((a.drop k).take (en-k)).take m,by rw [aF];omega,Hv sp (c:=ac) (by omega) (by omega),dp.take m,s,p⟩
   refine w.call ?_
   refine ih (by omega) Mp (mb.mono R) (by omega) hbc (by omega) (by omega) ?_
   intro A' m' c' g2 l2 au M2 h3 w3
   refine ⟨_,_,_,rfl,?_,?_⟩
   ·rw [w.eq,w3.eq]
    intro kk o e
    by_cases D:kk=b
    ·subst D;rw [C4] at e ⊢;exact e
    ·rw [B7 _ _ D] at e ⊢;exact l2 kk o e
   obtain ⟨n,M,E,L,ah,ab⟩:=M2
   have ak:=E7 b64 zs (i:=k) (by omega)
   have aq:=C5 (by decide) (z.take k)
   have ad:a.take en=a.take k++(a.drop k).take (en-k):=by
    have:=List.take_add (l:=a) (i:=k) (j:=en-k)
    rwa [show k+(en-k)=en by omega] at this
   have V:val b64 (a.take en)=val b64 (a.take k)+b64^k*val b64 ((a.drop k).take (en-k)):=by
    rw [ad,H6,aF,aI (by omega)]
   have H:val b64 zs+b64^k*val b64 n=val b64 (a.take en)*y:=by
    rw [hv,ab,V];grind
   have ao:val b64 (a.take en)*y<b64^(a.length+bn):=by
    have t1:=I5 (by decide) (Q.take en)
    have t2:=C5 (by decide) (Q.take en)
    rw [aF,aI (by omega)] at t1
    have t3:val b64 (a.take en)*y<=b64^en*y:=aD (by omega) af
    have t4:b64^en*y<b64^en*b64^bn:=bX J (D6 (by decide) en)
    rw [<- aW] at t4
    have t5:=D5 (B:=b64) (by decide) (show en+bn<=a.length+bn by omega)
    omega
   have F:val b64 (zs.drop k)+val b64 n<b64^(a.length+bn-k):=by
    have e5:b64^(a.length+bn)=b64^k*b64^(a.length+bn-k):=by rw [<- aW];congr 1;omega
    by_cases S:val b64 (zs.drop k)+val b64 n<b64^(a.length+bn-k)
    ·exact S
    ·have:=aG (show b64^(a.length+bn-k)<=val b64 (zs.drop k)+val b64 n by omega) (aL (D6 (B:=b64) (by decide) k))
     rw [cI] at this
     omega
   have am:=C5 (by decide) (z.drop k)
   have ar:n.length<=a.length+bn-k:=by
    have Mps:Mw g2 A' n.length (val b64 n):=⟨n,rfl,E,L,ah,rfl⟩
    exact Mps.len_le (by decide) (by omega)
   have ws:=w3.sub (l:=k) (m:=a.length+bn) (c:=a.length+bn) (by omega) (by omega) (by omega)
   have X:(zs.drop k).take (a.length+bn-k)=zs.drop k:=aM (by rw [aS];omega)
   have G:(zs.drop k).length=a.length+bn-k:=by rw [aS];omega
   rw [X] at ws
   refine Gt ws G.symm E M (z.drop k) L (by omega) (by rw [G];exact F) (by omega) ?_
   intro us h5 ap aj aa w5
   have w6:=w3.whole (l:=k) (m:=a.length+bn) (by omega) (by omega) (by omega) w5
   refine ⟨rfl,⟨k+bn,_,g2,rfl,by omega,A0 R l2,?_,((z.take k).append aj).append (z.drop _),w6,?_⟩,by simp only [iAt,aH];omega⟩
   ·simp only [aN,aF,aS];omega
   ·rw [aX (by omega),cC,H6,aF,aI (by omega),aa]
    have:a.take (k+bn)=a.take en:=by
     rw [hen]
     by_cases S:a.length<=k+bn
     ·rw [aI S,aV,aM S]
     ·rw [dM (by omega)]
    rw [this,<- H,ak];grind
  have tr:=Cp (K:=fun r q=>∃ (t36A:Option bN) (t36n:Nat) (t36c:Nat),r= .slice t36A t36n t36c/\Heap.le C q/\aY prog C9 #[.slice t36A t36n t36c,.slice B bn bc] q (fun Z d=>∃ (t38A:Option bN) (t38n:Nat) (t38c:Nat),Z= .slice t38A t38n t38c/\Heap.le q d/\aY prog Q7 #[.slice (J4 (some ⟨b,0,none⟩) (a.length+bn) k 1) (a.length+bn-k) (a.length+bn-k),.slice t38A t38n t38c] d (fun T u=>T= .tuple #[]/\(∃ (k_1:Nat) (zs:List Int) (g:bJ),[I ((k+bn:Nat):Int)]=[I k_1]/\k_1<=a.length+bn/\h.le g/\zs.length=a.length+bn/\Dig b64 zs/\Win .u64 u g b C0 (some ⟨b,0,none⟩) [] zs []/\val b64 zs=val b64 (a.take k_1)*y)/\a.length+bn-(iAt [I ((k+bn:Nat):Int)] 0).toNat<a.length+bn-(iAt [I k] 0).toNat))) (ac:=ac-k) (sp.mono w.le) (by omega) (by omega) (fun m W s p=>⟨_,_,_,rfl,B3 _,O m (by omega) s p⟩)
  rw [ai] at tr
  exact tr
 ·have ae:a.take k=a:=aM (by omega)
  rw [ae] at hv
  rw [<- al]
  refine M0 w.sl z (bD _) (by omega) ?_
  intro m W hM
  rw [hv] at hM
  exact ⟨_,_,_,rfl,hK _ _ _ _ (A0 R w.le) W hM⟩
def C3r{X0 X1 Y0 Y1 P:Int}(hx0:0<=X0)(hx1:0<=X1)(hy0:0<=Y0)(hy1:0<=Y1):
 X0*Y0<=(X0+X1)*(Y0+Y1)/\X1*Y1<=(X0+X1)*(Y0+Y1)-X0*Y0/\(X0+P*X1)*(Y0+P*Y1)=X0*Y0+P*((X0+X1)*(Y0+Y1)-X0*Y0-X1*Y1)+P*P*(X1*Y1):=by
 have a:=aQ hx0 hy0
 have b:=aQ hx0 hy1
 have c:=aQ hx1 hy0
 have d:=aQ hx1 hy1
 have e:(X0+X1)*(Y0+Y1)=X0*Y0+X0*Y1+X1*Y0+X1*Y1:=by grind
 refine ⟨by omega,by omega,?_⟩
 rw [e];grind
def C1t:∀ N,C0l N:=by
 intro N
 induction N with
 | zero=>
  intro h K A B ac bc an bn x y hN ma mb ha R hl w E
  have h0:=ma.len_zero (by decide)
  have hx:x=0:=h0.2 (by omega)
  subst hx
  rw [dQ] at E
  refine Dk _ _ _ _ _ _ ?_
  unfold Cm
  refine ⟨fun l h'=>h'=h/\l=[.slice A an ac,.slice B bn bc],B4 (fun e=>absurd e (by omega)) (fun _=>⟨rfl,rfl⟩),?_⟩
  rintro A1 u c1 B1 z c2 hp ⟨rfl,hl⟩
  obtain ⟨⟨rfl,rfl,rfl⟩,rfl,rfl,rfl⟩:(A1=A/\u=an/\c1=ac)/\B1=B/\z=bn/\c2=bc:=by simpa using hl
  refine D9 (fun _=>E none 0 0 _ (B3 _) (bD _) Mag.zero) (fun e=>absurd (by omega) e)
 | succ N ih=>
  intro h K A B ac bc an bn x y hN ma mb ha R hl w E
  refine Dk _ _ _ _ _ _ ?_
  unfold Cm
  refine ⟨fun l h'=>h'=h/\∃ (A1 B1:Option bN) (u z c1 c2:Nat) (x1 y1:Int),l=[.slice A1 u c1,.slice B1 z c2]/\Mw h A1 u x1/\Mw h B1 z y1/\z<=u/\u<=1000000000/\u<=c1/\z<=c2/\u+z<=N+1/\x1*y1=x*y,B4 (fun h1=>?_) (fun h1=>?_),?_⟩
  ·exact ⟨rfl,_,_,_,_,_,_,y,x,rfl,mb,ma,by omega,w,R,ha,by omega,aP _ _⟩
  ·exact ⟨rfl,_,_,_,_,_,_,x,y,rfl,ma,mb,by omega,hl,ha,R,by omega,rfl⟩
  clear ma mb ha R hl w hN
  rintro A1 u c1 B1 z c2 hp ⟨rfl,A1',B1',b2,bj,bh,b3,x1,y1,au,m1,S,hn,a0,F,ad,ci,ag⟩
  obtain ⟨⟨rfl,rfl,rfl⟩,rfl,rfl,rfl⟩:(A1=A1'/\u=b2/\c1=bh)/\B1=B1'/\z=bj/\c2=b3:=by simpa using au
  rw [<- ag] at E
  clear au ag
  have hz:=S.len_zero (by decide)
  refine D9 (fun h0=>?_) (fun h0=>?_)
  ·have:y1=0:=hz.2 (by omega)
   subst this
   rw [eJ] at E
   exact E none 0 0 _ (B3 _) (bD _) Mag.zero
  ·refine ⟨fun l h'=>∃ t:Bool,h'=hp/\l=[.bool t]/\(t=true->y1=1),D9 (fun h1=>?_) (fun h1=>⟨false,rfl,rfl,fun e=>by cases e⟩),?_⟩
   ·obtain ⟨g,ae,sy,O,ny,bw⟩:=S
    refine sy.load ae (by omega) (by omega) ⟨_,rfl,rfl,fun e=>?_⟩
    have e1:g.getD 0 0=1:=by simpa using e
    obtain ⟨d,rfl⟩:∃ d,g=[d]:=by
     cases g with
     | nil=>simp at ae;omega
     | cons d r=>
      cases r with
      | nil=>exact ⟨d,rfl⟩
      | cons _ _=>simp at ae;omega
    rw [<- bw,S9];simpa using e1
   rintro tb X ⟨t',rfl,w,Q⟩
   obtain rfl:tb=t':=by simpa using w
   refine Br.of (fun e=>?_) (fun _=>?_)
   ·rw [Q e,Int.mul_one] at E
    exact E _ _ _ _ (B3 _) F m1
   clear Q w
   have eL:B5 ((u:Int)+z)=((u+z:Nat):Int):=by rw [B6 (by omega) (by omega)];omega
   refine B4 (fun h2=>?_) (fun h2=>?_)
   ·obtain ⟨k,rfl,sx,W,nx,rfl⟩:=m1
    obtain ⟨g,rfl,sy,O,ny,rfl⟩:=S
    rw [eL]
    refine I3 O8 (by omega) (by omega) (by omega) ?_
    intro b R
    rw [aC]
    exact ⟨_,_,_,rfl,B95 R sx W sy O a0 (by omega) E⟩
   ·obtain ⟨H,hH⟩:∃ H,H=(u+1)/2:=⟨_,rfl⟩
    have eH:B5 (dE (B5 ((u:Int)+1)) 2)=(H:Int):=by
     rw [B6 (n:=(u:Int)+1) (by omega) (by omega),bB (by omega),B6 (by omega) (by omega)];omega
    have bm:B5 ((2:Int)*(H:Int))=((2*H:Nat):Int):=by rw [B6 (by omega) (by omega)];omega
    simp only [eH,eL,bm,aC]
    refine B4 (fun h3=>?_) (fun h3=>?_)
    ·refine Na ih (by omega) m1 S F ad a0 (by omega) (by omega) ?_
     intro A' m c' h' l' k' M'
     exact ⟨_,_,_,rfl,E _ _ _ _ l' k' M'⟩
    ·have bv:=m1.nonneg (by decide)
     have av:=m1.lt (by decide)
     have aj:=S.lt (by decide)
     have bo:=S.nonneg (by decide)
     obtain ⟨k,rfl,sx,W,nx,rfl⟩:=m1
     obtain ⟨g,rfl,sy,O,ny,rfl⟩:=S
     have b0:H<k.length:=by omega
     have bt:H<g.length:=by omega
     have a9:=C5 (by decide) (W.take H)
     have ak:=C5 (by decide) (W.drop H)
     have a3:=C5 (by decide) (O.take H)
     have a1:=C5 (by decide) (O.drop H)
     have b7:=E7 b64 k (i:=H) (by omega)
     have b1:=E7 b64 g (i:=H) (by omega)
     have a6:=I5 (by decide) (W.take H)
     have ax:=I5 (by decide) (O.take H)
     rw [aF,aI (by omega)] at a6 ax
     have C:Mw X (J4 A1 c1 H 1) (k.length-H) (val b64 (k.drop H)):=by
      have:=Mw.of (Yv sx (c:=c1) (l:=H) (by omega) F) (W.drop H) (Kf nx b0)
      rwa [aS] at this
     have D:Mw X (J4 B1 c2 H 1) (g.length-H) (val b64 (g.drop H)):=by
      have:=Mw.of (Yv sy (c:=c2) (l:=H) (by omega) ad) (O.drop H) (Kf ny bt)
      rwa [aS] at this
     obtain ⟨ka,kb,kc⟩:=C3r (P:=b64^H) a9 ak a3 a1
     rw [<- b7,<- b1] at kc
     generalize hX0:val b64 (k.take H)=X0 at *
     generalize hX1:val b64 (k.drop H)=X1 at *
     generalize hY0:val b64 (g.take H)=Y0 at *
     generalize hY1:val b64 (g.drop H)=Y1 at *
     rw [H1,H1,bV,bV,bV]
     refine ⟨⟨by omega,by omega⟩,⟨by omega,by omega⟩,?_⟩
     refine Hc (Hv sx (c:=c1) (m:=H) (by omega) F) (W.take H) (by rw [aF];omega) hX0 (by omega) (by omega) ?_
     intro mx cr MX0
     refine ⟨_,_,_,rfl,B3 _,⟨by omega,by omega⟩,⟨by omega,by omega⟩,?_⟩
     refine Hc (Hv sy (c:=c2) (m:=H) (by omega) ad) (O.take H) (by rw [aF];omega) hY0 (by omega) (by omega) ?_
     intro my cq MY0
     refine ⟨_,_,_,rfl,B3 _,?_⟩
     refine ih (by omega) MX0 MY0 (by omega) (by omega) (by omega) (by omega) ?_
     intro A3 n3 c3 g3 l3 k3 M3
     refine ⟨_,_,_,rfl,?_⟩
     refine ih (by omega) (C.mono l3) (D.mono l3) (by omega) (by omega) (by omega) (by omega) ?_
     intro A4 n4 c4 g4 l4 k4 M4
     refine ⟨_,_,_,rfl,?_⟩
     have L:=A0 l3 l4
     refine O4 (MX0.mono L) (C.mono L) (by omega) (by omega) (by omega) (by omega) ?_
     intro A5 n5 c5 g5 l5 k5 M5
     refine ⟨_,_,_,rfl,?_⟩
     have a2:=A0 L l5
     refine O4 (MY0.mono a2) (D.mono a2) (by omega) (by omega) (by omega) (by omega) ?_
     intro A6 n6 c6 g6 l6 k6 M6
     refine ⟨_,_,_,rfl,?_⟩
     have am:=C.lt (by decide)
     have aq:=D.lt (by decide)
     have bf:=D6 (B:=b64) (by decide) H
     have cd:b64^(H+1)=b64^H*18446744073709551616:=aZ _ _
     have cf:n5<=H+1:=by
      refine M5.len_le (by decide) ?_
      have:=D5 (B:=b64) (by decide) (show k.length-H<=H by omega)
      omega
     have b8:n6<=H+1:=by
      refine M6.len_le (by decide) ?_
      have:=D5 (B:=b64) (by decide) (show g.length-H<=H by omega)
      omega
     refine ih (by omega) (M5.mono l6) M6 k5 k6 (by omega) (by omega) ?_
     intro A7 n7 c7 g7 l7 k7 M7
     refine ⟨_,_,_,rfl,?_⟩
     have T:=A0 (A0 l5 l6) l7
     have o:∀ {p q:Int} {i j:Nat},0<=p->p<b64^i->0<=q->q<b64^j->p*q<b64^(i+j):=by
      intro p q i j a b c d
      rw [aW]
      have t1:p*q<=b64^i*q:=aD (by omega) c
      have t2:b64^i*q<b64^i*b64^j:=bX d (D6 (by decide) i)
      omega
     have ce:n7<=n5+n6:=M7.len_le (by decide) (o (M5.nonneg (by decide)) (M5.lt (by decide)) (M6.nonneg (by decide)) (M6.lt (by decide)))
     refine G0 M7 (M3.mono (A0 l4 T)) k7 (by omega) ka ?_
     intro A8 n8 c8 g8 l8 k8 M8
     refine ⟨_,_,_,rfl,?_⟩
     have cc:n8<=n7:=M8.len_le (by decide) (by have:=M7.lt (by decide);have:=M3.nonneg (by decide);omega)
     refine G0 M8 (M4.mono (A0 T l8)) k8 (by omega) kb ?_
     intro A9 n9 c9 g9 l9 k9 M9
     refine ⟨_,_,_,rfl,?_⟩
     have Z:=A0 T (A0 l8 l9)
     have ar:X.le g9:=A0 L Z
     refine I3 O8 (by omega) (by omega) (by omega) ?_
     intro b R
     rw [aC]
     refine ⟨_,_,_,rfl,?_⟩
     have w0:=Win.blk .u64 C0 R (aE (k.length+g.length) 0)
     have b9:n3<=H+H:=M3.len_le (by decide) (o a9 a6 a3 ax)
     have ca:n4<=(k.length-H)+(g.length-H):=M4.len_le (by decide) (o ak am a1 aq)
     obtain ⟨s,az,bd,bq,cs,af⟩:=M3.mono (A0 l4 Z)
     obtain ⟨hi,ah,bl,bg,cp,ao⟩:=M4.mono Z
     obtain ⟨M,a7,a8,aw,b4,ai⟩:=M9
     refine Eo O8 w0 (by simp) (bd.mono w0.le) az (by simp;omega) ?_
     intro cn V
     refine ⟨_,rfl,⟨by omega,by omega⟩,?_⟩
     have bu:s++(aE (k.length+g.length) (0:Int)).drop s.length=s++aE (k.length+g.length-s.length) 0:=by rw [bA]
     rw [bu] at V
     have ab:=V.sub (l:=2*H) (m:=k.length+g.length) (c:=k.length+g.length) (by omega) (by simp;omega) (by simp;omega)
     have bz:((s++aE (k.length+g.length-s.length) (0:Int)).drop (2*H)).take (k.length+g.length-2*H)=aE (k.length+g.length-2*H) 0:=by
      rw [eQ,aX (by omega),cA,bA,cF]
      congr 1;omega
     rw [bz] at ab
     refine Eo O8 ab (by simp) (bl.mono ab.le) ah (by simp;omega) ?_
     intro cl al
     refine ⟨_,rfl,⟨by omega,by omega⟩,?_⟩
     rw [bA] at al
     have J:=V.whole (l:=2*H) (m:=k.length+g.length) (by omega) (by simp;omega) (by simp;omega) al
     have ba:(s++aE (k.length+g.length-s.length) (0:Int)).take (2*H)=s++aE (2*H-s.length) 0:=by
      rw [List.take_append,aM (by omega),cF]
      congr 2;omega
     have b5:(s++aE (k.length+g.length-s.length) (0:Int)).drop (k.length+g.length)=[]:=by
      apply aX;simp;omega
     rw [ba,b5,cC] at J
     generalize hzs:s++aE (2*H-s.length) (0:Int)++(hi++aE (k.length+g.length-2*H-hi.length) 0)=zs at J
     have co:zs.length=k.length+g.length:=by
      rw [<- hzs];simp;omega
     have G:Dig b64 zs:=by
      rw [<- hzs]
      exact (bq.append (G4 (by decide) _)).append (bg.append (G4 (by decide) _))
     have br:val b64 zs=X0*Y0+b64^H*b64^H*(X1*Y1):=by
      rw [<- hzs,H6,Bm,Bm,af,ao]
      have:(s++aE (2*H-s.length) (0:Int)).length=H+H:=by simp;omega
      rw [this,aW]
     have a4:=J.sub (l:=H) (m:=k.length+g.length) (c:=k.length+g.length) (by omega) (by omega) (by omega)
     have bb:(zs.drop H).take (k.length+g.length-H)=zs.drop H:=aM (by rw [aS];omega)
     have ay:(zs.drop H).length=k.length+g.length-H:=by rw [aS];omega
     rw [bb] at a4
     have be:=E7 b64 zs (i:=H) (by omega)
     have ck:=C5 (by decide) (G.take H)
     have cb:=C5 (by decide) (G.drop H)
     have cj:val b64 k*val b64 g<b64^(k.length+g.length):=o bv av bo aj
     have ap:val b64 zs+b64^H*val b64 M=val b64 k*val b64 g:=by rw [kc,br,ai];grind
     have a5:val b64 (zs.drop H)+val b64 M<b64^(k.length+g.length-H):=by
      have e5:b64^(k.length+g.length)=b64^H*b64^(k.length+g.length-H):=by rw [<- aW];congr 1;omega
      by_cases hc:val b64 (zs.drop H)+val b64 M<b64^(k.length+g.length-H)
      ·exact hc
      ·have:=aG (show b64^(k.length+g.length-H)<=val b64 (zs.drop H)+val b64 M by omega) (aL bf)
       rw [cI] at this
       omega
     have ch:M.length<=k.length+g.length-H:=by
      have Mmi:Mw g9 A9 M.length (val b64 M):=⟨M,rfl,a8,aw,b4,rfl⟩
      exact Mmi.len_le (by decide) (by omega)
     refine Gt a4 ay.symm a8 a7 (G.drop H) aw (by omega) (by rw [ay];exact a5) (by omega) ?_
     intro us cm cg bx bi b6
     refine ⟨rfl,?_⟩
     have aa:=J.whole (l:=H) (m:=k.length+g.length) (by omega) (by omega) (by omega) b6
     rw [aX (show zs.length<=k.length+g.length by omega),cC] at aa
     have bp:(zs.take H++us).length=k.length+g.length:=by
      simp only [aN,aF];omega
     rw [<- bp]
     refine M0 aa.sl ((G.take H).append bx) (by omega) (by omega) ?_
     intro m hm hM
     have bk:val b64 (zs.take H++us)=val b64 k*val b64 g:=by
      rw [H6,aF,aI (by omega),bi,<- ap,be];grind
     rw [bk] at hM
     exact ⟨_,_,_,rfl,E _ _ _ _ (A0 ar aa.le) hm hM⟩
def G1{x y:Int}{an bn:Nat}(ma:Mw h A an x)(mb:Mw h B bn y)(ha:an<=ac)(hb:bn<=bc)(hl:an<=1000000000)(hl2:bn<=1000000000)(hK:∀ A' m c' h',h.le h'->m<=c'->Mw h' A' m (x*y)->K (.slice A' m c') h'):aY prog C9 #[.slice A an ac,.slice B bn bc] h K:=
 C1t _ (bD _) ma mb ha hb hl hl2 hK
end
section
variable {h g:bJ} {K:VP} {A B:Option bN} {ac bc:Nat}
def B03{hi lo y:Int}(hhi:0<=hi/\hi<y)(hlo:0<=lo/\lo<18446744073709551616)(hy:y<18446744073709551616)
 (hK:K (.tuple #[U ((hi*18446744073709551616+lo)/y),U ((hi*18446744073709551616+lo)%y)]) h):aY prog El #[U hi,U lo,U y] h K:=by
 obtain ⟨n,rfl⟩:∃ n:Nat,y=n:=⟨y.toNat,by omega⟩
 exact Qi hhi hlo (by omega) hK
def Sj{x:Int}{an w:Nat}(ma:Mw h A an x)(hw:0<w/\w<18446744073709551616)(hl:an<=1000000000)(hK:∀ A' m c' h',h.le h'->m<=c'->m<=an->Mw h' A' m (x/w)->K (.tuple #[.slice A' m c',U (x%w)]) h'):aY prog Ea #[.slice A an ac,U w] h K:=by
 obtain ⟨a,rfl,G,B,L,rfl⟩:=ma
 refine Uk _ _ _ _ ?_
 unfold Tk
 refine I3 O8 (by omega) (by omega) (by omega) ?_
 intro b z
 rw [aC]
 refine ⟨_,_,_,rfl,?_⟩
 refine ⟨fun l h'=>∃ (k:Nat) (r:Int) (zs:List Int),l=[U r,I ((k:Int)-1)]/\k<=a.length/\zs.length=a.length/\Dig b64 zs/\(0<=r/\r<w)/\h'=blk .u64 C0 h b zs/\val b64 (a.drop k)=val b64 (zs.drop k)*w+r,fun l _=>(iAt l 1+1).toNat,⟨a.length,0,_,by rw [B6 (by omega) (by omega)],by omega,by simp,G4 (by decide) _,by omega,rfl,by simp [val]⟩,?_⟩
 rintro r i J ⟨k,E,zs,p,M,c,u,d,rfl,g⟩
 obtain ⟨rfl,rfl⟩:r=E/\i=(k:Int)-1:=by simpa using p
 have o:=S3 (k:=.u64) (e:=C0) z zs
 refine B4 (fun D=>?_) (fun D=>?_)
 ·obtain ⟨j,rfl⟩:∃ j,k=j+1:=⟨k-1,by omega⟩
  have e:((j+1:Nat):Int)-1=(j:Int):=by omega
  rw [e]
  have H:=L6 B j
  refine (G.mono o).load rfl (by omega) (by omega) ?_
  rw [aC]
  refine Qi d H hw.2 ⟨_,_,rfl,?_⟩
  have F:0<=r*18446744073709551616+a.getD j 0:=by omega
  have q:0<=(r*18446744073709551616+a.getD j 0)/w/\(r*18446744073709551616+a.getD j 0)/w<18446744073709551616:=by
   constructor
   ·exact bM F (by omega)
   ·apply bC (by omega)
    have:(r+1)*18446744073709551616<=(w:Int)*18446744073709551616:=aD (by omega) (by decide)
    omega
  refine ⟨_,rfl,by omega,by omega,?_⟩
  refine Dh (zs:=zs) (i:=j) F0 (by omega) ?_
  rw [B6 (by omega) (by omega)]
  refine ⟨⟨j,_,zs.set j ((r*18446744073709551616+a.getD j 0)/w),rfl,by omega,by simpa using c,u.set q,⟨aR _ (by omega),aJ _ (by omega)⟩,rfl,?_⟩,by simp only [iAt,aH,aO];omega⟩
  rw [S2 (by omega),Js b64 (by omega),g]
  have:=aK (r*18446744073709551616+a.getD j 0) w
  simp only [val]
  grind
 ·have s:k=0:=by omega
  subst s
  rw [fA,fA] at g
  rw [<- c]
  refine M0 (Cd _ _ _ _ _) u (bD _) (by omega) ?_
  intro m C y
  have q:val b64 a/w=val b64 zs:=by
   rw [g,dT,dS _ _ (by omega),bK d.1 d.2,cO]
  have n:val b64 a%w=r:=by
   rw [g,dT,eX,eM d.1 d.2]
  rw [<- q] at y
  rw [<- n]
  exact ⟨_,_,_,rfl,hK _ _ _ _ (S3 z _) C (by omega) y⟩
def Kc{x:Int}{an w:Nat}(ma:Mw h A an x)(hw:0<w/\w<18446744073709551616)(hl:an<=1000000000)(hK:K (U (x%w)) h):aY prog Y6 #[.slice A an ac,U w] h K:=by
 obtain ⟨a,rfl,p,n,z,rfl⟩:=ma
 refine Nu _ _ _ _ ?_
 unfold Im
 refine ⟨fun l u=>∃ (k:Nat) (r:Int) (Q:Int),l=[U r,I ((k:Int)-1)]/\k<=a.length/\(0<=r/\r<w)/\u=h/\val b64 (a.drop k)=Q*w+r,fun l _=>(iAt l 1+1).toNat,⟨a.length,0,0,by rw [B6 (by omega) (by omega)],by omega,by omega,rfl,by simp [val]⟩,?_⟩
 rintro r i y ⟨k,o,Q,c,B,d,rfl,g⟩
 obtain ⟨rfl,rfl⟩:r=o/\i=(k:Int)-1:=by simpa using c
 refine B4 (fun q=>?_) (fun q=>?_)
 ·obtain ⟨j,rfl⟩:∃ j,k=j+1:=⟨k-1,by omega⟩
  have e:((j+1:Nat):Int)-1=(j:Int):=by omega
  rw [e]
  have s:=L6 n j
  refine p.load rfl (by omega) (by omega) ?_
  rw [aC]
  refine Qi d s hw.2 ⟨_,_,rfl,?_⟩
  rw [B6 (by omega) (by omega)]
  refine ⟨⟨j,_,b64*Q+(r*18446744073709551616+a.getD j 0)/w,rfl,by omega,⟨aR _ (by omega),aJ _ (by omega)⟩,rfl,?_⟩,by simp only [iAt,aH,aO];omega⟩
  rw [Js b64 (by omega),g]
  have:=aK (r*18446744073709551616+a.getD j 0) w
  show _+(18446744073709551616:Int)*_=((18446744073709551616:Int)*_+_)*_+_
  grind
 ·have m:k=0:=by omega
  subst m
  rw [fA] at g
  have b:val b64 a%w=r:=by
   rw [g,dT,eX,eM d.1 d.2]
  rw [b] at hK;exact hK
def Yr{us vs:List Int}{m wn dn:Nat}{X Y:Int}(su:SlI .u64 h A us)(sv:SlI .u64 h B vs)(hwn:wn=us.length)(hdn:dn=vs.length)(du:Dig b64 us)(dv:Dig b64 vs)(hu:us.length=m+3)(hv:vs.length=m+2)(hl:m<=10000000000)(h1:b64<=2*vs.getD (m+1) 0)(hX:val b64 us=X)(hY:val b64 vs=Y)(hlt:X<Y*b64)
 (hK:∀ q,0<=q->q<18446744073709551616->X<(q+1)*Y->(q-1)*Y<=X->K (U q) h):aY prog Jg #[.slice A wn ac,.slice B dn bc] h K:=by
 subst hwn hdn
 have b:=B5h (B:=b64) (by decide) du dv hu hv h1 (by rw [hX,hY];exact hlt)
 rw [hX,hY] at b
 have gu:=L6 du (m+2)
 have i:=L6 du (m+1)
 have Z:=L6 dv (m+1)
 have p:=b.v1r
 have a:=b.v2r
 have ae:=b.u2r
 have M:=b.V0
 have N:=b.U0
 refine A22 _ _ _ _ _ _ ?_
 unfold A23
 have V:B5 ((vs.length:Int)-1)=((m+1:Nat):Int):=by rw [B6 (by omega) (by omega)];omega
 have e2:B5 ((vs.length:Int)-2)=(m:Int):=by rw [B6 (by omega) (by omega)];omega
 have R:((vs.length:Nat):Int)=((m+2:Nat):Int):=by omega
 rw [V,e2,R]
 refine sv.load (by omega) (by omega) (by omega) ?_
 refine sv.load (by omega) (by omega) (by omega) ?_
 refine su.load rfl (by omega) (by omega) ?_
 simp only [aC]
 refine B4 (fun J=>?_) (fun J=>?_)
 ·have L:=b.top (by
   have:vs.getD (m+1) 0*b64<=us.getD (m+2) 0*b64:=aD J (by decide)
   omega)
  exact hK 18446744073709551615 (by omega) (by omega) L.2 L.1
 ·refine su.load rfl (by omega) (by omega) ?_
  refine su.load rfl (by omega) (by omega) ?_
  simp only [aC]
  refine B03 (by omega) i Z.2 ⟨_,_,rfl,B3 h,?_⟩
  generalize hT:us.getD (m+2) 0*b64+us.getD (m+1) 0=T at b
  have aa:us.getD (m+2) 0*18446744073709551616+us.getD (m+1) 0=T:=hT
  have x:0<=T:=b.top0
  have z:=b.init
  have F:=aK T (vs.getD (m+1) 0)
  have W:=aR T (show vs.getD (m+1) 0≠0 by omega)
  have ab:=aJ T (show 0<vs.getD (m+1) 0 by omega)
  have D:0<=T/vs.getD (m+1) 0:=bM x (by omega)
  have u:T/vs.getD (m+1) 0<18446744073709551616:=by
   apply bC (by omega)
   have:(us.getD (m+2) 0+1)*18446744073709551616<=vs.getD (m+1) 0*18446744073709551616:=aD (by omega) (by decide)
   have:=i.2
   have:18446744073709551616*vs.getD (m+1) 0=vs.getD (m+1) 0*18446744073709551616:=aP _ _
   omega
  refine ⟨fun l h'=>∃ q r:Int,l=[U q,U r]/\h'=h/\(0<=q/\q<18446744073709551616)/\(0<=r/\r<18446744073709551616)/\q*vs.getD (m+1) 0+r=T/\X<(q+1)*Y,fun l _=>(iAt l 0).toNat,⟨_,_,rfl,rfl,⟨D,u⟩,by omega,by rw [aP];exact F,z⟩,?_⟩
  rintro q r w ⟨q',O,y,rfl,s,hr,C,j⟩
  obtain ⟨rfl,rfl⟩:q=q'/\r=O:=by simpa using y
  have hm:0<=q*vs.getD m 0/\q*vs.getD m 0<=18446744073709551615*18446744073709551615:=⟨aQ s.1 a.1,dG (by omega) (by have:=(L6 dv m).2;omega) a.1 (by decide)⟩
  have key:q*(vs.getD (m+1) 0*b64+vs.getD m 0)=(T-r)*18446744073709551616+q*vs.getD m 0:=by
   rw [<- C];show q*(vs.getD (m+1) 0*(18446744073709551616:Int)+vs.getD m 0)=_;grind
  have e:q*vs.getD m 0<=r*18446744073709551616+us.getD m 0->K (U q) w:=by
   intro S
   refine hK q s.1 s.2 j (b.up (by show q<=(18446744073709551616:Int);omega) ?_)
   rw [key];show _<=T*(18446744073709551616:Int)+_;omega
  have d:¬ (q*vs.getD m 0<=r*18446744073709551616+us.getD m 0)->Br (decide (B8 (r+vs.getD (m+1) 0)<vs.getD (m+1) 0)) (K (U (B8 (q-1))) w) ((∃ q_1 r_1:Int,[U (B8 (q-1)),U (B8 (r+vs.getD (m+1) 0))]=[U q_1,U r_1]/\w=w/\(0<=q_1/\q_1<18446744073709551616)/\(0<=r_1/\r_1<18446744073709551616)/\q_1*vs.getD (m+1) 0+r_1=T/\X<(q_1+1)*Y)/\(iAt [U (B8 (q-1)),U (B8 (r+vs.getD (m+1) 0))] 0).toNat<(iAt [U q,U r] 0).toNat):=by
   intro hf
   have E:X<q*Y:=b.low s.1 (by rw [key];show T*(18446744073709551616:Int)+_<_;omega)
   have u:1<=q:=by
    by_cases G:1<=q
    ·exact G
    ·have:q=0:=by omega
     subst this;omega
   have c:X<(q-1+1)*Y:=by rw [Int.sub_add_cancel];exact E
   have g:(q-1)*vs.getD (m+1) 0+(r+vs.getD (m+1) 0)=T:=by grind
   rw [B9 (n:=q-1) (by omega) (by omega)]
   refine B4 (fun o=>?_) (fun o=>?_)
   ·rw [D8] at o
    have hb:(q-1)*vs.getD m 0<=18446744073709551616*vs.getD m 0:=aD (by omega) a.1
    have k:(q-1)*(vs.getD (m+1) 0*b64+vs.getD m 0)=(T-(r+vs.getD (m+1) 0))*18446744073709551616+(q-1)*vs.getD m 0:=by
     rw [<- g];show (q-1)*(vs.getD (m+1) 0*(18446744073709551616:Int)+vs.getD m 0)=_;grind
    refine hK (q-1) (by omega) (by omega) c (b.up (by show q-1<=(18446744073709551616:Int);omega) ?_)
    rw [k]
    have:=a.2
    show _<=T*(18446744073709551616:Int)+_
    have:vs.getD m 0<18446744073709551616:=a.2
    omega
   ·have H:r+vs.getD (m+1) 0<18446744073709551616:=by
     by_cases G:r+vs.getD (m+1) 0<18446744073709551616
     ·exact G
     ·rw [D8] at o;have:=p.2;have:vs.getD (m+1) 0<18446744073709551616:=p.2;omega
    rw [B9 (n:=r+vs.getD (m+1) 0) (by omega) H]
    exact ⟨⟨q-1,r+vs.getD (m+1) 0,rfl,rfl,by omega,by omega,g,c⟩,by simp only [iAt,aH];omega⟩
  refine Kg s (by have:=a.2;exact ⟨a.1,this⟩) ⟨_,_,rfl,?_⟩
  have ad:0<=us.getD m 0/\us.getD m 0<18446744073709551616:=L6 du m
  refine B4 (fun o=>e (by omega)) (fun o=>?_)
  refine D9 (fun Q=>?_) (fun Q=>d (by omega))
  refine su.load rfl (by omega) (by omega) ?_
  rw [aC]
  exact B4 (fun h5=>e (by omega)) (fun h5=>d (by omega))
end
section
variable {h g:bJ} {K:VP} {bu bq:Nat} {pre qs:List Int} {VA:Option bN} {vs:List Int}
def B9x{n N:Nat}{ws:List Int}{q:Int}{J:LP}(hu:g bu=none)(hq:g bq=none)(hne:bu≠bq)(sv:SlI .u64 g VA vs)(dv:Dig b64 vs)(hn:n=vs.length)(dw:Dig b64 ws)(hN:N=(pre++ws).length)(hl:n<ws.length)(hbig:N<=4000000000)
 (hD:val b64 (ws.take n)+val b64 vs<2*b64^n) (hD0:b64^n<=val b64 (ws.take n)+val b64 vs) (htop:ws.getD n 0=18446744073709551615)
 (hJ:∀ ws',ws'.length=ws.length->Dig b64 ws'->ws'.drop (n+1)=ws.drop (n+1)->ws'.getD n 0=0->val b64 (ws'.take n)=val b64 (ws.take n)+val b64 vs-b64^n->J [U (B8 (q-1))] (X8 .u64 C0 g bu (pre++ws') bq qs)):
 Y9 prog n VA n (some ⟨bu,0,none⟩) N (pre.length:Int) q J (X8 .u64 C0 g bu (pre++ws) bq qs):=by
 unfold Y9
 refine ⟨fun l R=>∃ (k:Nat) (c:Int) (zs:List Int),l=[U c,I k]/\k<=n/\zs.length=ws.length/\Dig b64 zs/\(0<=c/\c<=1)/\R=X8 .u64 C0 g bu (pre++zs) bq qs/\zs.drop k=ws.drop k/\val b64 (zs.take k)+c*b64^k=val b64 (ws.take k)+val b64 (vs.take k),fun l _=>n-(iAt l 1).toNat,⟨0,0,ws,rfl,by omega,rfl,dw,by omega,rfl,rfl,by simp [val]⟩,?_⟩
 rintro c i V ⟨k,H,zs,y,W,j,p,S,rfl,a,L⟩
 obtain ⟨rfl,rfl⟩:c=H/\i=(k:Int):=by simpa using y
 have x:g.le (X8 .u64 C0 g bu (pre++zs) bq qs):=Ns hu hq hne
 have D:SlI .u64 (X8 .u64 C0 g bu (pre++zs) bq qs) (some ⟨bu,0,none⟩) (pre++zs):=Su hne
 have d:N=(pre++zs).length:=by rw [hN,aN,aN,j]
 have T:N=pre.length+zs.length:=by rw [d,aN]
 have u:B5 ((pre.length:Int)+k)=((k+pre.length:Nat):Int):=by rw [B6 (by omega) (by omega)];omega
 have A:B5 ((pre.length:Int)+n)=((n+pre.length:Nat):Int):=by rw [B6 (by omega) (by omega)];omega
 refine B4 (fun F=>?_) (fun F=>?_)
 ·have M:=L6 dv k
  have O:=L6 p k
  have b:=E2 a
  have Q:=C2 b64 vs k
  have E:=C2 b64 ws k
  rw [u]
  refine (sv.mono x).load hn (by omega) (by omega) ?_
  refine D.load d (by omega) (by omega) ?_
  simp only [aC,Dy]
  refine Es O M S ⟨_,_,rfl,?_⟩
  refine ⟨_,rfl,by omega,by omega,?_⟩
  have m:=L5 (P:=prog) (t:=C0) (k:=.u64) (e:=C0) (g:=g) (bu:=bu) (bq:=bq) (us:=pre++zs) (qs:=qs) (i:=((k+pre.length:Nat):Int)) (n:=(zs.getD k 0+vs.getD k 0+c)%18446744073709551616) F0 hne (by rw [aC];omega)
   (K:=fun _ o=>(∃ (k_1:Nat) (c_1:Int) (zs_1:List Int),[U ((zs.getD k 0+vs.getD k 0+c)/18446744073709551616),I (B5 ((k:Int)+1))]=[U c_1,I k_1]/\k_1<=n/\zs_1.length=ws.length/\Dig b64 zs_1/\(0<=c_1/\c_1<=1)/\o=X8 .u64 C0 g bu (pre++zs_1) bq qs/\zs_1.drop k_1=ws.drop k_1/\val b64 (zs_1.take k_1)+c_1*b64^k_1=val b64 (ws.take k_1)+val b64 (vs.take k_1))/\n-(iAt [U ((zs.getD k 0+vs.getD k 0+c)/18446744073709551616),I (B5 ((k:Int)+1))] 1).toNat<n-(iAt [U c,I k] 1).toNat)
  rw [aC] at m
  refine m ?_
  rw [Ir,B6 (n:=(k:Int)+1) (by omega) (by omega)]
  refine ⟨⟨k+1,_,zs.set k ((zs.getD k 0+vs.getD k 0+c)%18446744073709551616),rfl,by omega,by simpa using j,p.set (Dw _),by omega,rfl,?_,?_⟩,by simp only [iAt,aH,aO];omega⟩
  ·rw [D3 (by omega)];exact D7 a
  ·rw [C6 (by omega),E5,aF,aI (by omega),aZ,Ao,Q,E,<- b]
   grind
 ·have s:k=n:=by omega
  subst s
  have b:=E2 a
  rw [A]
  refine D.load d (by omega) (by omega) ?_
  rw [aC,Dy,b,htop]
  refine ⟨_,rfl,by omega,by omega,?_⟩
  have C:vs.take k=vs:=by rw [hn,aV]
  rw [C] at L
  have w:=I5 (by decide) (p.take k)
  rw [aF,aI (by omega)] at w
  have X:=C5 (by decide) (p.take k)
  have z:c=1:=by
   by_cases B:c=0
   ·subst B;omega
   ·omega
  subst z
  have G:B8 (18446744073709551615+1)=0:=by rw [D8];omega
  rw [G]
  have m:=L5 (P:=prog) (t:=C0) (k:=.u64) (e:=C0) (g:=g) (bu:=bu) (bq:=bq) (us:=pre++zs) (qs:=qs) (i:=((k+pre.length:Nat):Int)) (n:=0) F0 hne (by rw [aC];omega) (K:=fun _ r=>J [U (B8 (q-1))] r)
  rw [aC] at m
  refine m ?_
  rw [Ir]
  refine hJ (zs.set k 0) (by simpa using j) (p.set (by decide)) (by rw [D3 (by omega)];exact D7 a) (by simp [cK,show k<zs.length by omega]) ?_
  rw [List.take_set_of_le (by omega)]
  omega
end
def B2k{g h':bJ}{e:cH}{bu bq:Nat}{A:Option bN}{us qs:List Int}(hne:bu≠bq)(w:Win .u64 h' (blk .u64 e g bq qs) bu e A [] us []):h'=X8 .u64 e g bu us bq qs:=by
 rw [Gs hne,w.eq]
 simp [blk]
def B41{g:bJ}{e:cH}{bu bq:Nat}{us qs:List Int}(hu:g bu=none)(hne:bu≠bq):Win .u64 (X8 .u64 e g bu us bq qs) (blk .u64 e g bq qs) bu e (some ⟨bu,0,none⟩) [] us []:=by
 rw [Gs hne]
 refine Win.blk .u64 e ?_ us
 unfold blk;rw [B7 _ _ hne];exact hu
def A1n{P:dD}{t:cH}{k:cV}{e:cH}{g:bJ}{bu bq:Nat}{us qs:List Int}(one:P.cellsOf t=1/\(P.info? t).isSome=true)(hne:bu≠bq){n:Int}{i:Nat}(hi:i<us.length){K:Unit->bJ->Prop}
 (x:K () (X8 k e g bu (us.set i n) bq qs)):wpH P (dK t (.pointer (some (eC ⟨bu,0,none⟩ (i*1)))) (.int k n)) K (X8 k e g bu us bq qs):=by
 have:=L5 (P:=P) (t:=t) (k:=k) (e:=e) (g:=g) (bu:=bu) (bq:=bq) (us:=us) (qs:=qs) (i:=(i:Int)) (n:=n) (K:=K) one hne (by simpa using hi) (by simpa using x)
 simpa using this
def A1o{P:dD}{t:cH}{k:cV}{e:cH}{g:bJ}{bu bq:Nat}{us qs:List Int}(one:P.cellsOf t=1/\(P.info? t).isSome=true){n:Int}{i:Nat}(hi:i<qs.length){K:Unit->bJ->Prop}
 (x:K () (X8 k e g bu us bq (qs.set i n))):wpH P (dK t (.pointer (some (eC ⟨bq,0,none⟩ (i*1)))) (.int k n)) K (X8 k e g bu us bq qs):=by
 have:=Sv (P:=P) (t:=t) (k:=k) (e:=e) (g:=g) (bu:=bu) (bq:=bq) (us:=us) (qs:=qs) (i:=(i:Int)) (n:=n) (K:=K) one (by simpa using hi) (by simpa using x)
 simpa using this
section
variable {h g:bJ} {K:VP} {bu bq:Nat} {VA:Option bN} {vs us0:List Int}
set_option maxHeartbeats 1000000 in
def A31{s mm N nq vc xn:Nat}{a b Y:Int}(hu:g bu=none)(hq:g bq=none)(hne:bu≠bq)(sv:SlI .u64 g VA vs)(dv:Dig b64 vs)(hn:vs.length=mm+2)(hv1:b64<=2*vs.getD (mm+1) 0)(hs:s<64)(hY:val b64 vs=Y)(hYb:Y=b*2^s)(du:Dig b64 us0)(hN:us0.length=N)(hua:val b64 us0=a*2^s)(hxn:N=xn+1)(hnq:N=nq+(mm+2))(hnq1:1<=nq)(hbig:N<=1000000001)(htop:val b64 (us0.drop nq)<Y)
 (hK:∀ A1 m1 c1 A2 m2 c2 h',g.le h'->m1<=c1->m2<=c2->Mw h' A1 m1 (a/b)->Mw h' A2 m2 (a%b)->K (.tuple #[.slice A1 m1 c1,.slice A2 m2 c2]) h'):
 Z0 prog xn (mm+2) K (s:Int) VA (mm+2) vc (some ⟨bu,0,none⟩) N N (some ⟨bq,0,none⟩) nq nq (X8 .u64 C0 g bu us0 bq (aE nq 0)):=by
 have hp:0<(2:Int)^s:=bG (by decide)
 have a4:Y<b64^(mm+2):=by rw [<- hY,<- hn];exact I5 (by decide) dv
 have a8:0<Y:=by have:=C5 (by decide) (du.drop nq);omega
 have e0:B5 ((xn:Int)-((mm+2:Nat):Int))=(nq:Int)-1:=by rw [B6 (by omega) (by omega)];omega
 unfold Z0
 refine ⟨fun l h'=>∃ (k:Nat) (us qs:List Int),l=[I ((k:Int)-1)]/\k<=nq/\us.length=N/\qs.length=nq/\Dig b64 us/\Dig b64 qs/\h'=X8 .u64 C0 g bu us bq qs/\val b64 (us.drop k)<Y/\val b64 us0=val b64 (qs.drop k)*Y*b64^k+val b64 us,fun l _=>(iAt l 0+1).toNat,⟨nq,us0,_,by rw [e0],by omega,hN,by simp,du,G4 (by decide) _,rfl,htop,by simp [val]⟩,?_⟩
 rintro j a2 ⟨k,us,qs,ak,hk,D,R,w,aa,rfl,ax,hv⟩
 obtain rfl:j=(k:Int)-1:=by simpa using ak
 have ab:g.le (X8 .u64 C0 g bu us bq qs):=Ns hu hq hne
 have su:SlI .u64 (X8 .u64 C0 g bu us bq qs) (some ⟨bu,0,none⟩) us:=Su hne
 unfold Fa
 refine B4 (fun h1=>?_) (fun h1=>?_)
 ·obtain ⟨j,rfl⟩:∃ j,k=j+1:=⟨k-1,by omega⟩
  have ej:((j+1:Nat):Int)-1=(j:Int):=by omega
  rw [ej]
  have e1:B5 ((j:Int)+((mm+2:Nat):Int))=((j+(mm+2):Nat):Int):=by rw [B6 (by omega) (by omega)];omega
  have e2:B5 (((j+(mm+2):Nat):Int)+1)=((j+(mm+3):Nat):Int):=by rw [B6 (by omega) (by omega)];omega
  simp only [e1,e2,aC]
  have z:=w.drop j
  have M:(us.drop j).length=N-j:=by rw [aS,D]
  have y:val b64 ((us.drop j).drop (mm+3))=0:=by
   have:=Cf (B:=b64) (by decide) (n:=mm+2) (w.drop (j+1)) (by omega)
   rw [cM] at this ⊢
   rw [show j+(mm+3)=j+1+(mm+2) by omega];exact this
  have al:=A03 b64 us j
  have av:val b64 (us.drop j)<Y*b64:=by
   have bc:=L6 w j
   rw [al]
   have t1:b64*(val b64 (us.drop (j+1))+1)<=b64*Y:=aG (by omega) (by decide)
   have t2:b64*(val b64 (us.drop (j+1))+1)=b64*val b64 (us.drop (j+1))+18446744073709551616:=by show (18446744073709551616:Int)*_=_;grind
   have t3:Y*b64=b64*Y:=aP _ _
   omega
  have E:=E7 b64 (us.drop j) (i:=mm+3) (by omega)
  rw [y,eJ,eO] at E
  have am:=F2 b64 (us.drop j) (mm+2)
  have hX:val b64 (us.drop j)=val b64 ((us.drop j).take (mm+2))+b64^(mm+2)*(us.drop j).getD (mm+2) 0:=by rw [E];exact am
  refine ⟨⟨by omega,by omega⟩,⟨by omega,by omega⟩,?_⟩
  have sw:SlI .u64 (X8 .u64 C0 g bu us bq qs) (J4 (some ⟨bu,0,none⟩) N j 1) ((us.drop j).take (mm+3)):=by
   have:=su.cut (c:=N) (l:=j) (m:=j+(mm+3)) (by omega) (by omega) (by omega)
   rwa [show j+(mm+3)-j=mm+3 by omega] at this
  generalize hXX:val b64 (us.drop j)=X at *
  refine Yr (m:=mm) (X:=X) (Y:=Y) sw (sv.mono ab) (by rw [aF,M];omega) hn.symm (z.take _) dv (by rw [aF,M];omega) hn (by omega) hv1 E.symm hY av ?_
  intro q q0 q1 q2 q3
  refine ⟨_,rfl,⟨by omega,by omega⟩,⟨by omega,by omega⟩,?_⟩
  have w0:=B41 (e:=C0) (us:=us) (qs:=qs) hu hne
  have ay:SlI .u64 (blk .u64 C0 g bq qs) VA vs:=sv.mono (S3 hq qs)
  have hW:(us.drop j).take (j+(mm+2)-j)=(us.drop j).take (mm+2):=by rw [show j+(mm+2)-j=mm+2 by omega]
  have w1:=w0.sub (l:=j) (m:=j+(mm+2)) (c:=N) (by omega) (by omega) (by omega)
  rw [hW] at w1
  have O:((us.drop j).take (mm+2)).length=mm+2:=by rw [aF,M];omega
  refine Ia w1 (by rw [O];omega) ay hn.symm (z.take _) dv (by rw [O,hn]) ⟨q0,q1⟩ (by omega) ?_
  intro W c h2 p H x F w2
  rw [O] at p F
  refine ⟨_,rfl,?_⟩
  have w3:=w0.whole (l:=j) (m:=j+(mm+2)) (by omega) (by omega) (by omega) w2
  have ag:=B2k hne w3
  have o:(us.take j).length=j:=by rw [aF,D];omega
  have ai:us.drop (j+(mm+2))=(us.drop j).drop (mm+2):=by rw [cM]
  rw [bF,ai] at ag
  subst ag
  generalize hws:us.drop j=ws at *
  have r:(W++ws.drop (mm+2)).length=ws.length:=by rw [aN,aS];omega
  have dW:Dig b64 (W++ws.drop (mm+2)):=H.append (z.drop _)
  have T:(W++ws.drop (mm+2)).getD (mm+2) 0=ws.getD (mm+2) 0:=by
   simp only [cK]
   rw [eZ (by omega),p,Nat.sub_self,List.getElem?_drop,eI]
  have ad:=L6 z (mm+2)
  have a0:(us.take j++(W++ws.drop (mm+2))).length=N:=by rw [aN,r,o];omega
  have au:SlI .u64 (X8 .u64 C0 g bu (us.take j++(W++ws.drop (mm+2))) bq qs) (some ⟨bu,0,none⟩) (us.take j++(W++ws.drop (mm+2))):=Su hne
  have ah:j+(mm+2)=(mm+2)+(us.take j).length:=by omega
  refine au.load a0.symm (by omega) (by omega) ?_
  rw [aC,ah,Dy,T]
  refine ⟨_,rfl,by omega,by omega,?_⟩
  refine A1n (i:=mm+2+(us.take j).length) F0 hne (by omega) ?_
  rw [Ir]
  have hP:0<b64^(mm+2):=D6 (by decide) _
  have aw:=I5 (by decide) H
  have a5:=C5 (by decide) H
  rw [p] at aw
  rw [hY] at F
  have hD:X-q*Y=val b64 W+(ws.getD (mm+2) 0-c)*b64^(mm+2):=by rw [F,hX];grind
  have ae:X-q*Y<Y:=by
   have:(q+1)*Y=q*Y+Y:=by grind
   omega
  have a1: -Y<=X-q*Y:=by
   have:(q-1)*Y=q*Y-Y:=by grind
   omega
  have a9:0<=X:=by
   have t1:=C5 (by decide) (z.take (mm+2))
   have t2:=aQ (aL hP) ad.1
   omega
  have a3:ws.getD (mm+2) 0-c=0\/ws.getD (mm+2) 0-c= -1:=by
   have t2:ws.getD (mm+2) 0-c<1:=by
    by_cases x:ws.getD (mm+2) 0-c<1
    ·exact x
    ·have:=aD (show 1<=ws.getD (mm+2) 0-c by omega) (aL hP);omega
   have t3: -2<ws.getD (mm+2) 0-c:=by
    by_cases x: -2<ws.getD (mm+2) 0-c
    ·exact x
    ·have:=aD (show ws.getD (mm+2) 0-c <= -2 by omega) (aL hP);omega
   omega
  have A:∀ v,((W++ws.drop (mm+2)).set (mm+2) v).take (mm+2)=W:=by
   intro v
   rw [List.take_set_of_le (by omega),cP p]
  have Z:∀ v,((W++ws.drop (mm+2)).set (mm+2) v).getD (mm+2) 0=v:=by
   intro v
   rw [cK,fN (by omega)];rfl
  have V:∀ v,((W++ws.drop (mm+2)).set (mm+2) v).drop (mm+3)=ws.drop (mm+3):=by
   intro v
   rw [D3 (by omega),show mm+3=(mm+2)+1 by omega,<- cM,dC p,cM]
  refine ⟨fun l h'=>∃ d u,l=[U u]/\h'=X8 .u64 C0 g bu (us.take j++d) bq qs/\d.length=ws.length/\Dig b64 d/\d.drop (mm+3)=ws.drop (mm+3)/\d.getD (mm+2) 0=0/\val b64 (d.take (mm+2))=X-u*Y/\0<=X-u*Y/\X-u*Y<Y/\0<=u/\u<18446744073709551616,B4 (fun h3=>?_) (fun h3=>?_),?_⟩
  ·have L:ws.getD (mm+2) 0-c= -1:=by omega
   rw [L] at hD ⊢
   have ac:B8 (-1)=18446744073709551615:=by rw [D8];omega
   rw [ac]
   have an:1<=q:=by
    by_cases x:1<=q
    ·exact x
    ·have:q=0:=by omega
     subst this;omega
   have e5:(q-1)*Y=q*Y-Y:=by grind
   have bk:=B9x (g:=g) (bu:=bu) (bq:=bq) (pre:=us.take j) (qs:=qs) (VA:=VA) (vs:=vs) (n:=mm+2) (N:=N) (ws:=(W++ws.drop (mm+2)).set (mm+2) 18446744073709551615) (q:=q)
    (J:=fun l h'=>∃ d u,l=[U u]/\h'=X8 .u64 C0 g bu (us.take j++d) bq qs/\d.length=ws.length/\Dig b64 d/\d.drop (mm+3)=ws.drop (mm+3)/\d.getD (mm+2) 0=0/\val b64 (d.take (mm+2))=X-u*Y/\0<=X-u*Y/\X-u*Y<Y/\0<=u/\u<18446744073709551616)
    hu hq hne sv dv hn.symm (dW.set (by decide)) (by rw [aN,bL,r,o];omega) (by rw [bL,r];omega) (by omega) (by rw [A,hY];omega) (by rw [A,hY];omega) (Z _) ?_
   ·rw [o] at bk;exact bk
   ·intro d g1 g2 g3 g4 g5
    rw [A,hY] at g5
    rw [B9 (n:=q-1) (by omega) (by omega)]
    refine ⟨d,q-1,rfl,rfl,by rw [g1,bL,r],g2,by rw [g3,V],g4,by omega,by omega,by omega,by omega,by omega⟩
  ·have G:ws.getD (mm+2) 0-c=0:=by omega
   rw [G] at hD ⊢
   have aj:B8 0=0:=by rw [D8];omega
   rw [aj]
   exact ⟨(W++ws.drop (mm+2)).set (mm+2) 0,q,rfl,rfl,by rw [bL,r],dW.set (by decide),V _,Z _,by rw [A];omega,by omega,ae,q0,q1⟩
  ·rintro q4 a6 ⟨d,u,ao,rfl,g1,g2,g3,g4,g5,g6,g7,g8,g9⟩
   obtain rfl:q4=u:=by simpa using ao
   refine ⟨_,rfl,by omega,by omega,?_⟩
   refine A1o (i:=j) F0 (by omega) ?_
   rw [B6 (by omega) (by omega)]
   have Q:val b64 d=X-q4*Y:=by
    have z1:=E7 b64 d (i:=mm+3) (by omega)
    rw [g3,y,F2,g4,g5] at z1
    simp at z1
    omega
   refine ⟨⟨j,us.take j++d,qs.set j q4,rfl,by omega,by rw [aN,g1,o];omega,by simpa using R,(w.take j).append g2,aa.set ⟨g8,g9⟩,rfl,?_,?_⟩,by simp only [iAt,aH];omega⟩
   ·rw [dC o,Q];exact g7
   ·have S:=E7 b64 us (i:=j) (by omega)
    rw [hws,hXX] at S
    rw [hv,S2 (by omega),H6,o,Q,S,aZ]
    simp only [val]
    grind
 ·have az:k=0:=by omega
  subst az
  simp at ax hv
  have ba:0<b:=by
   by_cases x:0<b
   ·exact x
   ·have:=aD (show b<=0 by omega) (aL hp);omega
  have a7:=C5 (by decide) w
  have hR:val b64 us=(a-val b64 qs*b)*2^s:=by
   rw [hua,hYb] at hv
   grind
  have ap:0<=a-val b64 qs*b:=by
   by_cases x:0<=a-val b64 qs*b
   ·exact x
   ·have:=aD (show a-val b64 qs*b <= -1 by omega) (aL hp);omega
  have ar:a-val b64 qs*b<b:=by
   by_cases x:a-val b64 qs*b<b
   ·exact x
   ·have:=aD (show b<=a-val b64 qs*b by omega) (aL hp);omega
  have C:a/b=val b64 qs:=by
   have:a=(a-val b64 qs*b)+val b64 qs*b:=by omega
   rw [this,dS _ _ (by omega),bK ap ar,cO]
  have af:a%b=a-val b64 qs*b:=by
   have:=Int.emod_def a b
   rw [this,C,aP]
  rw [C,af] at hK
  rw [<- R]
  refine M0 B5k aa (bD _) (by omega) ?_
  intro m1 ac M1
  refine ⟨_,_,_,rfl,?_⟩
  rw [<- D]
  refine M0 su w (bD _) (by omega) ?_
  intro m2 bb M2
  refine ⟨_,_,_,rfl,?_⟩
  rw [B9 (by omega) (by omega)]
  refine Et M2 (by have:=M2.len_le (by decide) (j:=mm+2) (by omega);omega) (by omega) ?_
  intro A3 m3 c3 h3 l3 k3 M3
  have aq:val b64 us/2^s=a-val b64 qs*b:=by rw [hR,eD _ (by omega)]
  rw [aq] at M3
  exact ⟨_,_,_,rfl,hK _ _ _ _ _ _ _ (A0 ab l3) (by omega) k3 (M1.mono l3) M3⟩
end
section
variable {h g:bJ} {K:VP} {A B:Option bN} {ac bc:Nat}
set_option maxHeartbeats 1000000 in
def Dd{x y:Int}{an bn:Nat}(ma:Mw h A an x)(mb:Mw h B bn y)(ha:an<=ac)(hbc:bn<=bc)(hy:y≠0)(hl:an<=1000000000)(hl2:bn<=1000000000)
 (hK:∀ A1 m1 c1 A2 m2 c2 h',h.le h'->m1<=c1->m2<=c2->Mw h' A1 m1 (x/y)->Mw h' A2 m2 (x%y)->K (.tuple #[.slice A1 m1 c1,.slice A2 m2 c2]) h'):aY prog H0 #[.slice A an ac,.slice B bn bc] h K:=by
 have S:=ma.nonneg (by decide)
 have aj:=mb.nonneg (by decide)
 have a5:=mb.len_zero (by decide)
 have C:=ma.lt (by decide)
 have a6:=mb.lt (by decide)
 refine Pn _ _ _ _ _ _ ?_
 unfold Lr
 refine G8 ma mb (by omega) ⟨_,rfl,B4 (fun u=>?_) (fun u=>D9 (fun h2=>?_) (fun h2=>?_))⟩
 ·have T:x<y:=by
   unfold Cj at u
   by_cases c:x<y
   ·exact c
   ·rw [iN c] at u
    by_cases V:x>y
    ·rw [iP V] at u;omega
    ·rw [iN V] at u;omega
  rw [bK S T,eM S T] at hK
  exact hK none 0 0 _ _ _ _ (B3 h) (bD _) ha Mag.zero ma
 ·obtain ⟨a,rfl,sy,X,ny,rfl⟩:=mb
  have M:a.length=1:=by omega
  obtain ⟨d,rfl⟩:∃ d,a=[d]:=by
   cases a with
   | nil=>simp at M
   | cons d r=>
    cases r with
    | nil=>exact ⟨d,rfl⟩
    | cons _ _=>simp at M
  rw [S9] at hy aj hK
  have hd:=X d (by simp)
  obtain ⟨w,rfl⟩:∃ w:Nat,d=w:=⟨d.toNat,by omega⟩
  refine sy.load rfl (by omega) (by simp) ?_
  show aY _ _ #[_,U (w:Int)] _ _
  have hw:w<18446744073709551616:=by have:=hd.2;have:(w:Int)<18446744073709551616:=this;omega
  refine Sj ma ⟨by omega,hw⟩ hl ?_
  intro A' m c' h' ai hm a1 hM
  refine ⟨_,_,_,_,rfl,?_⟩
  refine Ac ⟨aR _ (by omega),by have:=aJ x (show (0:Int)<w by omega);omega⟩ ?_
  intro A2 m2 c2 h3 J k3 M3
  exact ⟨_,_,_,rfl,hK _ _ _ _ _ _ _ (A0 ai J) hm k3 (hM.mono J) M3⟩
 ·have ae:y<=x:=by
   unfold Cj at u
   by_cases c:x<y
   ·rw [iP c] at u;omega
   ·omega
  have a3:bn<=an:=mb.len_le (by decide) (cJ ae C)
  have al:=mb
  have av:=ma
  obtain ⟨a,rfl,sy,X,ny,rfl⟩:=mb
  obtain ⟨mm,hmm⟩:∃ mm,a.length=mm+2:=⟨a.length-2,by omega⟩
  have gt:=L6 X (mm+1)
  have aw:=A08 (m:=mm+1) hmm ny
  obtain ⟨W,o⟩:=Al (B:=b64) (by decide) X (m:=mm+1) hmm
  have e1:B5 ((a.length:Int)-1)=((mm+1:Nat):Int):=by rw [B6 (by omega) (by omega)];omega
  rw [e1]
  refine sy.load rfl (by omega) (by omega) ?_
  rw [aC]
  obtain ⟨t,ht⟩:∃ t:Nat,a.getD (mm+1) 0=t:=⟨(a.getD (mm+1) 0).toNat,by omega⟩
  rw [ht] at gt aw W o ⊢
  have p:t≠0:=by omega
  refine O0 (by omega) ⟨_,rfl,?_⟩
  obtain ⟨ax,a0⟩:=Bj p
  have az:I9 t<=64:=Ep (k:=64) (by omega)
  have ay:1<=I9 t:=by unfold I9;rw [iN p];omega
  obtain ⟨s,hs⟩:∃ s,s=64-I9 t:=⟨_,rfl⟩
  rw [<- hs]
  have G:s<64:=by omega
  have b:0<(2:Int)^s:=bG (by decide)
  have af:=W5 (s:=s) (by omega)
  have z:I9 t=64-s:=by omega
  have ar:(t:Int)+1<=2^(64-s):=by
   rw [<- z]
   have:((t+1:Nat):Int)<=((2^I9 t:Nat):Int):=by omega
   simpa using this
  have ap:(2:Int)^(63-s)<=t:=by
   have:((2^(I9 t-1):Nat):Int)<=((t:Nat):Int):=by omega
   rw [show I9 t-1=63-s by omega] at this
   simpa using this
  have O:(2:Int)^s*2^(63-s)=9223372036854775808:=by
   rw [<- aW,show s+(63-s)=63 by omega];decide
  have aq:B8 (s:Int)=(s:Int):=B9 (by omega) (by omega)
  rw [aq]
  have j:=D6 (B:=b64) (by decide) (mm+1)
  have ad:val b64 a*2^s<b64^(mm+2):=by
   have t2:val b64 a*2^s<((t:Int)+1)*b64^(mm+1)*2^s:=bI W b
   have t3:((t:Int)+1)*b64^(mm+1)*2^s=((t:Int)+1)*2^s*b64^(mm+1):=by grind
   have t4:((t:Int)+1)*2^s*b64^(mm+1)<=18446744073709551616*b64^(mm+1):=by
    apply aD _ (aL j)
    rw [<- af,aP (2^s)]
    exact aD ar (aL b)
   have t5:b64^(mm+2)=18446744073709551616*b64^(mm+1):=by rw [aZ b64 (mm+1),aP]
   omega
  have a2:9223372036854775808*b64^(mm+1)<=val b64 a*2^s:=by
   have t1:(t:Int)*b64^(mm+1)*2^s<=val b64 a*2^s:=aD o (aL b)
   have t2:9223372036854775808*b64^(mm+1)<=(t:Int)*2^s*b64^(mm+1):=by
    apply aD _ (aL j)
    rw [<- O,aP (t:Int)]
    exact aG ap (by omega)
   have t3:(t:Int)*2^s*b64^(mm+1)=(t:Int)*b64^(mm+1)*2^s:=by grind
   omega
  refine Q9 al hbc hl2 (by omega) ?_
  intro A1 n1 c1 g1 l1 k1 M1
  refine ⟨_,_,_,rfl,?_⟩
  have ag:n1=mm+2:=by
   have q1:=M1.len_le (by decide) ad
   have q2:=M1.lt (by decide)
   by_cases c:n1=mm+2
   ·exact c
   ·have:=D5 (B:=b64) (by decide) (show n1<=mm+1 by omega)
    omega
  subst ag
  obtain ⟨vs,H,sv,dv,nv,Q⟩:=M1
  have ah:b64<=2*vs.getD (mm+1) 0:=by
   obtain ⟨q1,q2⟩:=Al (B:=b64) (by decide) dv (m:=mm+1) H.symm
   rw [Q] at q1
   have:9223372036854775808<vs.getD (mm+1) 0+1:=by
    by_cases c:9223372036854775808<vs.getD (mm+1) 0+1
    ·exact c
    ·have:=aD (show vs.getD (mm+1) 0+1<=9223372036854775808 by omega) (aL j);omega
   show (18446744073709551616:Int)<=_
   omega
  have eN:B5 ((an:Int)+1)=((an+1:Nat):Int):=by rw [B6 (by omega) (by omega)];omega
  rw [eN]
  refine I3 O8 (by omega) (by omega) (by omega) ?_
  intro bu ak
  rw [aC]
  refine ⟨_,_,_,rfl,?_⟩
  have w0:=Win.blk .u64 C0 ak (aE (an+1) 0)
  refine w0.call ?_
  refine Q9 (av.mono l1) ha hl (by omega) ?_
  intro A3 n3 c3 g3 J k3 M3 h4 w4
  refine ⟨_,_,_,rfl,?_⟩
  have ab:x*2^s<b64^(an+1):=by
   have t1:x*2^s<b64^an*2^s:=bI C b
   have t2:b64^an*2^s<=b64^an*18446744073709551616:=by
    apply aG _ (aL (D6 (by decide) an))
    have:=D5 (B:=2) (by decide) (show s<=64 by omega)
    have e:(2:Int)^64=18446744073709551616:=by decide
    omega
   rw [aZ];show _<b64^an*(18446744073709551616:Int);omega
  have a7:=M3.len_le (by decide) ab
  obtain ⟨us,aa,ao,am,a4,L⟩:=M3
  refine Eo O8 w4 (by simp) (ao.mono w4.le) aa (by simp;omega) ?_
  intro h5 Z
  refine ⟨_,rfl,?_⟩
  rw [bA] at Z
  generalize hu0:us++aE (an+1-us.length) (0:Int)=us0 at Z
  have F:us0.length=an+1:=by rw [<- hu0];simp;omega
  have q:Dig b64 us0:=by rw [<- hu0];exact am.append (G4 (by decide) _)
  have l:val b64 us0=x*2^s:=by rw [<- hu0,Bm];exact L
  obtain ⟨nq,hnq⟩:∃ nq,an+1=nq+(mm+2):=⟨an+1-(mm+2),by omega⟩
  have eq:B5 (B5 ((an:Int)-(a.length:Int))+1)=(nq:Int):=by
   rw [B6 (n:=(an:Int)-(a.length:Int)) (by omega) (by omega),B6 (by omega) (by omega)];omega
  rw [eq]
  refine I3 O8 (by omega) (by omega) (by omega) ?_
  intro bq g
  rw [aC]
  refine ⟨_,_,_,rfl,?_⟩
  have au:h5=blk .u64 C0 g3 bu us0:=by rw [Z.eq];simp [blk]
  subst au
  have E:g3 bu=none:=Z.free
  have D:bu≠bq:=by
   rintro rfl
   unfold blk at g
   rw [C4] at g;cases g
  have R:g3 bq=none:=by
   have:=g
   unfold blk at this
   rwa [B7 _ _ D.symm] at this
  rw [hmm]
  refine A31 (us0:=us0) (N:=an+1) (xn:=an) E R D (sv.mono J) dv H.symm ah G Q rfl q F l rfl hnq (by omega) (by omega) ?_ ?_
  ·have s1:=E7 b64 us0 (i:=nq) (by omega)
   have s2:=C5 (by decide) (q.take nq)
   have s3:val b64 us0<b64^an*2^s:=by
    rw [l];exact bI C b
   have s4:b64^(mm+1)<=val b64 a:=by
    have:=aD (show 1<=(t:Int) by omega) (aL j);omega
   have s5:b64^nq*(b64^(mm+1)*2^s)<=b64^nq*(val b64 a*2^s):=aG (aD s4 (aL b)) (aL (D6 (by decide) nq))
   have s6:b64^nq*(b64^(mm+1)*2^s)=b64^an*2^s:=by
    rw [<- cD,<- aW,show nq+(mm+1)=an by omega]
   by_cases c:val b64 (us0.drop nq)<val b64 a*2^s
   ·exact c
   ·have:=aG (show val b64 a*2^s<=val b64 (us0.drop nq) by omega) (aL (D6 (B:=b64) (by decide) nq));omega
  ·intro A5 m5 c5 A6 m6 c6 h6 l6 k5 k6 M5 M6
   exact hK _ _ _ _ _ _ _ (A0 l1 (A0 J l6)) k5 k6 M5 M6
end
def Yt{x a b p:Int}(h:a+p*b=x)(h0:0<=a)(h1:a<p):x/p=b/\x%p=a:=(Int.ediv_emod_unique (by omega)).2 ⟨h,h0,h1⟩
def Ue{P:dD}{h:bJ}{A:Option bN}{n m c s:Nat}{cs:List dZ}(hl:cs.length=n*s)(hc:cs=[]\/∃ a,A=some a/\∀ j v,cs[j]? = some v->h.cell? (a.add j)=some v){K:Array dZ->bJ->Prop}(x:K cs.toArray h):
 wpH P (Builtin.firstCells s n (.slice A m c)) K h:=by
 cases A with
 | none=>
  rcases hc with rfl|⟨a,e,_⟩
  ·exact x
  ·cases e
 | some a=>
  show wpH P (loadCells a (n*s)) K h
  rcases hc with rfl|⟨b,e,hc⟩
  ·exact R1 (cs:=[]) hl.symm (fun j v e=>by simp at e) x
  ·cases e
   exact R1 hl.symm hc x
def B3x{P:dD}{t e ty:cH}{k:cV}{bytes:Nat}(s:SliceT P t e (.int k 0) 1 bytes){h g:bJ}{b:Nat}{A:Option bN}{pre post:List dZ}{xs:List Int}{n c m d:Nat}(w:Win k h g b e A pre xs post)(hn:n=xs.length){B:Option bN}{ys:List Int}(sy:SlI k h B ys)(hm:min m xs.length=ys.length){K:VP}
 (x:∀ h',Win k h' g b e A pre (ys++xs.drop ys.length) post->K (I ys.length) h'):wpH P (dL #[t,t] ty #[.slice A n c,.slice B m d]) K h:=by
 subst hn
 have l:ys.length<=xs.length:=by omega
 obtain ⟨i,r,z,p,q⟩:=s.parts
 unfold dL
 simp only [dX,aH,aO,C3,E3 s.und,J5 r,F4,Builtin.lenOf,p]
 have o:Nat.min m xs.length=ys.length:=hm
 rw [o]
 refine Ue (s:=1) (cs:=ys.map (bH k)) (by simp) sy ?_
 cases A with
 | none=>
  rcases w.at_ with j|j
  ·subst j
   have:ys=[]:=aU (by simpa using l)
   subst this
   exact x h (by simpa using w)
  ·cases j
 | some a=>
  simp only [C3]
  rcases w.at_ with j|j
  ·subst j
   have:ys=[]:=aU (by simpa using l)
   subst this
   exact x h (by simpa using w)
  ·cases j
   rw [w.eq]
   refine H5 (ys.map (bH k)) pre.length 0 (pre++xs.map (bH k)++post) (by simp;omega) (fun v y=>?_) ?_
   ·obtain ⟨u,_,rfl⟩:=List.mem_map.1 y;rfl
   ·refine x _ ⟨w.free,?_,?_⟩
    ·congr 3
     unfold J8
     rw [eI,bF pre,cP rfl,dV]
     rw [eQ,aX (show pre.length<=pre.length+ys.length by omega),cG,cA]
     rw [cZ (by simpa using l),<- List.map_drop,dB]
     simp only [bF]
    ·right;rfl
section
variable {h g:bJ} {K:VP} {A B:Option bN} {ac bc:Nat}
def B59(a n:Nat):(if (a:Int)<(n:Int) then (a:Int) else (n:Int))=((min n a:Nat):Int):=by split<;>omega
def Jr{xs:List Int}(d:Dig b64 xs)(n:Nat):val b64 xs/b64^n=val b64 (xs.drop (min n xs.length))/\val b64 xs%b64^n=val b64 (xs.take (min n xs.length)):=by
 by_cases a:n<=xs.length
 ·rw [aI a]
  have e:=E7 b64 xs a
  have b:=C5 (by decide) (d.take n)
  have c:=I5 (by decide) (d.take n)
  rw [aF,aI a] at c
  exact Yt e.symm b c
 ·rw [dM (by omega),eP,aV]
  have b:=C5 (by decide) d
  have c:=I5 (by decide) d
  have g:=D5 (B:=b64) (by decide) (show xs.length<=n by omega)
  exact Yt (by simp [val]) b (by omega)
def U9{x:Int}{an n:Nat}(ma:Mw h A an x)(ha:an<=ac)(hK:∀ A' m c',m<=c'->m<=an->Mw h A' m (x/b64^n)->K (.slice A' m c') h):aY prog Q6 #[.slice A an ac,I n] h K:=by
 obtain ⟨b,rfl,e,a,d,rfl⟩:=ma
 refine Zb _ _ _ _ ?_
 unfold Vy
 rw [B59,aC]
 refine ⟨⟨by omega,by omega⟩,hK _ _ _ (by omega) (by omega) ?_⟩
 rw [(Jr a n).1,<- aS]
 refine Mw.of (Yv e (by omega) ha) (a.drop _) ?_
 by_cases c:min n b.length<b.length
 ·exact Kf d c
 ·rw [aX (by omega)];exact Norm.nil
def Dx{x:Int}{an n:Nat}(ma:Mw h A an x)(ha:an<=ac)(hl:an<=10000000000)(hK:∀ A' m c',m<=c'->m<=n->m<=an->Mw h A' m (x%b64^n)->K (.slice A' m c') h):aY prog Be #[.slice A an ac,I n] h K:=by
 obtain ⟨c,rfl,b,a,e,rfl⟩:=ma
 refine A1w _ _ _ _ ?_
 unfold A1x
 rw [B59,aC,H1,bV,bV]
 refine ⟨⟨by omega,by omega⟩,Hc (Hv b (m:=min n c.length) (by omega) ha) (a.take _) (by rw [aF];omega) (Jr a n).2.symm (by omega) (by omega) ?_⟩
 intro m d M
 exact ⟨_,_,_,rfl,hK _ _ _ (by omega) (by omega) (by omega) M⟩
def Fz{x y:Int}{an bn n:Nat}(ma:Mw h A an x)(mb:Mw h B bn y)(hbn:bn<=n)(hl:n+an<=5000000000)(hK:∀ A' m c' h',h.le h'->m<=c'->Mw h' A' m (x*b64^n+y)->K (.slice A' m c') h'):aY prog Je #[.slice A an ac,.slice B bn bc,I n] h K:=by
 obtain ⟨a,rfl,u,p,F,rfl⟩:=ma
 obtain ⟨d,rfl,C,r,H,rfl⟩:=mb
 refine B4a _ _ _ _ _ _ _ ?_
 unfold C02
 have s:B5 ((n:Int)+a.length)=((n+a.length:Nat):Int):=by rw [B6 (by omega) (by omega)];omega
 rw [s]
 refine I3 O8 (by omega) (by omega) (by omega) ?_
 intro b E
 rw [aC]
 refine ⟨_,_,_,rfl,?_⟩
 have o:=Win.blk .u64 C0 E (aE (n+a.length) 0)
 refine Eo O8 o (by simp) (C.mono o.le) rfl (by simp;omega) ?_
 intro G g
 refine ⟨_,rfl,⟨by omega,by omega⟩,?_⟩
 rw [bA] at g
 generalize hz:d++aE (n+a.length-d.length) (0:Int)=zs at g
 have D:zs.length=n+a.length:=by rw [<- hz];simp;omega
 have w:=g.sub (l:=n) (m:=n+a.length) (c:=n+a.length) (by omega) (by omega) (by omega)
 rw [aC]
 refine Eo O8 w (by rw [aF,aS];omega) (u.mono g.le) rfl (by rw [aF,aS];omega) ?_
 intro J k
 rw [aX (by rw [aF,aS];omega),cC] at k
 have i:=g.whole (l:=n) (m:=n+a.length) (by omega) (by omega) (by omega) k
 rw [aX (show zs.length<=n+a.length by omega),cC] at i
 have j:zs.take n=d++aE (n-d.length) 0:=by
  rw [<- hz,List.take_append,aM (by omega),cF]
  congr 2;omega
 rw [j] at i
 refine ⟨_,rfl,Hc i.sl ((r.append (G4 (by decide) _)).append p) (by simp;omega) rfl (by omega) (by omega) ?_⟩
 intro m q M
 refine ⟨_,_,_,rfl,hK _ _ _ _ i.le q ?_⟩
 rw [H6,Bm] at M
 have e:(d++aE (n-d.length) (0:Int)).length=n:=by simp;omega
 rw [e] at M
 have z:val b64 a*b64^n+val b64 d=val b64 d+b64^n*val b64 a:=by rw [aP];omega
 rw [z];exact M
def B7n{x y:Int}(hx:0<=x/\x<18446744073709551616)(hy:0<=y/\y<18446744073709551616)(hK:K (.tuple #[U (x*y/18446744073709551616),U (x*y%18446744073709551616)]) h):aY prog A9u #[U x,U y] h K:=by
 refine B8e _ _ ?_
 unfold C3m
 exact Kg hx hy ⟨_,_,rfl,hK⟩
def A3b{v:Int}{n:Nat}(s:SlI .u64 h A [v])(hn:0<n)(hl:n<=1000000000)(hK:∀ A' h',h.le h'->SlI .u64 h' A' (aE n v)->K (.slice A' n n) h'):aY prog Rr #[.slice A 1 ac,I n] h K:=by
 refine A75 _ _ _ _ ?_
 unfold B0s
 refine B4 (fun e=>by omega) (fun _=>?_)
 rw [B9 (n:=((1:Nat):Int)) (by omega) (by omega),B9 (n:=(n:Int)) (by omega) (by omega)]
 refine B7n (by omega) (by omega) ⟨_,_,rfl,?_⟩
 have y:((1:Nat):Int)*(n:Int)/18446744073709551616=0:=by omega
 have B:((1:Nat):Int)*(n:Int)%18446744073709551616=n:=by omega
 rw [y,B]
 refine B4 (fun e=>by omega) (fun _=>?_)
 refine B4 (fun e=>by omega) (fun _=>?_)
 rw [B6 (n:=(n:Int)) (by omega) (by omega)]
 refine I3 O8 (by omega) (by omega) (by omega) ?_
 intro b G
 rw [aC]
 refine ⟨_,_,_,rfl,?_⟩
 have q:=Win.blk .u64 C0 G (aE n 0)
 refine Eo O8 q (by simp) (s.mono q.le) rfl (by simp;omega) ?_
 intro e p
 refine ⟨_,rfl,?_⟩
 rw [bA] at p
 refine ⟨fun l d=>∃ k:Nat,l=[I k]/\0<k/\k<=n/\Win .u64 d h b C0 (some ⟨b,0,none⟩) [] (aE k v++aE (n-k) 0) [],fun l _=>n-(iAt l 0).toNat,⟨1,rfl,by omega,hn,p⟩,?_⟩
 rintro i d ⟨k,g,F,a,w⟩
 obtain rfl:=sI1 g
 refine B4 (fun C=>?_) (fun C=>?_)
 ·have E:(aE k v++aE (n-k) (0:Int)).length=n:=by simp;omega
  refine ⟨⟨by omega,by omega⟩,⟨by omega,by omega⟩,?_⟩
  simp only [aC,H1,bV]
  have r:=w.sub (l:=k) (m:=n) (c:=n) (by omega) (by omega) (by omega)
  have u:((aE k v++aE (n-k) (0:Int)).drop k).take (n-k)=aE (n-k) 0:=by
   rw [dC (by simp),aM (by simp)]
  rw [u] at r
  have z:SlI .u64 d (some ⟨b,0,none⟩) (aE (min k (n-k)) v):=by
   have:=Hv w.sl (c:=n) (m:=min k (n-k)) (by omega) (by omega)
   rwa [eS (by simp;omega),cF,aI (by omega)] at this
  refine B3x O8 r (by simp) z (by simp) ?_
  intro H o
  rw [bY] at o ⊢
  have j:=w.whole (l:=k) (m:=n) (by omega) (by omega) (by simp;omega) o
  have x:B5 ((k:Int)+(min k (n-k):Nat))=((k+min k (n-k):Nat):Int):=by rw [B6 (by omega) (by omega)];omega
  refine ⟨_,rfl,?_⟩
  rw [x]
  refine ⟨⟨_,rfl,by omega,by omega,?_⟩,?_⟩
  ·have D:(aE k v++aE (n-k) (0:Int)).take k++(aE (min k (n-k)) v++(aE (n-k) (0:Int)).drop (min k (n-k)))++(aE k v++aE (n-k) (0:Int)).drop n=aE (k+min k (n-k)) v++aE (n-(k+min k (n-k))) 0:=by
    rw [cP (by simp),aX (show (aE k v++aE (n-k) (0:Int)).length<=n by omega),cC,bA,<- bF,cU]
    congr 2;omega
   rw [D] at j
   exact j
  ·simp only [iAt,aH];omega
 ·have a:k=n:=by omega
  subst a
  have:=w.sl
  rw [Nat.sub_self,List.replicate_zero,cC] at this
  exact hK _ _ w.le this
end
def Mw.high{h:bJ}{A:Option bN}{an ac k:Nat}{x:Int}(ma:Mw h A an x)(ha:an<=ac)(hk:k<=an):Mw h (J4 A ac k 1) (an-k) (x/b64^k):=by
 obtain ⟨g,rfl,d,b,c,rfl⟩:=ma
 have e:=(Jr b k).1
 rw [aI hk] at e
 rw [e,<- aS]
 refine Mw.of (Yv d hk ha) (b.drop _) ?_
 by_cases a:k<g.length
 ·exact Kf c a
 ·rw [aX (by omega)];exact Norm.nil
def B2u{x P X2 yh top:Int}(hP:0<P)(h1:x<P*P*(X2+1))(h2:P*top<=x)(hlt:X2<yh):top<P*yh:=by
 by_cases a:top<P*yh
 ·exact a
 ·have c:P*(P*yh)<=P*top:=aG (by omega) (by omega)
  have b:P*P*(X2+1)<=P*P*yh:=aG (by omega) (aQ (by omega) (by omega))
  rw [cD P P yh] at b
  omega
def B2v{x P X2 yh top:Int}(hP:0<P)(h1:P*P*X2<=x)(h2:x<P*(top+1))(hge:yh<=X2):P*yh<=top:=by
 by_cases a:P*yh<=top
 ·exact a
 ·have c:P*(top+1)<=P*(P*yh):=aG (by omega) (by omega)
  have b:P*P*yh<=P*P*X2:=aG (by omega) (aQ (by omega) (by omega))
  rw [cD P P yh] at b
  omega
def B6d(N:Nat):Prop:=∀ {h:bJ} {K:VP} {A B:Option bN} {ac bc an bn:Nat} {x y:Int},bn<=N->Mw h A an x->Mw h B bn y->an<=ac->bn<=bc->an<=1000000000->bn<=200000000->0<bn->9223372036854775808*b64^(bn-1)<=y->x<b64^bn*y->
 (∀ A1 m1 c1 A2 m2 c2 h',h.le h'->m1<=c1->m2<=c2->Mw h' A1 m1 (x/y)->Mw h' A2 m2 (x%y)->K (.tuple #[.slice A1 m1 c1,.slice A2 m2 c2]) h')->aY prog R8 #[.slice A an ac,.slice B bn bc] h K
section
variable {h g:bJ} {K:VP} {A B:Option bN} {ac bc:Nat}
def Cc{x y:Int}:Cj x y<0↔x<y:=by
 unfold Cj
 by_cases a:x<y
 ·rw [iP a];simp [a]
 ·rw [iN a]
  by_cases b:x>y
  ·rw [iP b];simp [a]
  ·rw [iN b];simp [a]
set_option maxHeartbeats 1000000 in
def A2w{x y q0 R0 pr:Int}{m bn nq cq np cp nr cr:Nat}{Aq Ap Ar:Option bN}(hx0:0<=x)(mb:Mw h B bn y)(hb:bn<=bc)(hl2:bn<=200000000)(hbm:bn=2*m)(mq:Mw h Aq nq q0)(hq:nq<=cq)(mp:Mw h Ap np pr)(hp2:pr<b64^bn)
 (mr:Mw h Ar nr R0) (hr:nr<=cr) (hq0:q0<b64^m) (hR:R0-pr=x-q0*y) (hy:x-q0*y<y)
 (hK:∀ A1 m1 c1 A2 m2 c2 h',h.le h'->m1<=c1->m2<=c2->Mw h' A1 m1 (x/y)->Mw h' A2 m2 (x%y)->K (.tuple #[.slice A1 m1 c1,.slice A2 m2 c2]) h'):
 Y8 prog B bn bc K Aq nq cq Ap np cp Ar nr cr h:=by
 have L:=mb.lt (by decide)
 have J:=mb.nonneg (by decide)
 have Q:=mp.nonneg (by decide)
 unfold Y8
 refine ⟨fun l c=>∃ (Aq Ar:Option bN) (nq cq nr cr:Nat) (q R:Int),l=[.slice Aq nq cq,.slice Ar nr cr]/\h.le c/\Mw c Aq nq q/\nq<=cq/\Mw c Ar nr R/\nr<=cr/\q<b64^m/\R-pr=x-q*y/\x-q*y<y,fun l c=>match l with|[.slice A n _,_]=>A9a b64 c A n|_=>0,⟨_,_,_,_,_,_,_,_,rfl,B3 h,mq,hq,mr,hr,hq0,hR,hy⟩,?_⟩
 rintro A1 w c1 A2 C c2 c ⟨Aq,Ar,nq,cq,nr,cr,q,R,u,d,mq,hq,mr,hr,hq0,hR,hy⟩
 simp only [bO,cL,and_true] at u
 obtain ⟨⟨rfl,rfl,rfl⟩,rfl,rfl,rfl⟩:=u
 have D:C<=bn+1:=mr.len_le (by decide) (by
  rw [aZ]
  show R<b64^bn*18446744073709551616
  omega)
 have z:w<=m:=mq.len_le (by decide) hq0
 refine G8 mr (mp.mono d) (by omega) ⟨_,rfl,?_⟩
 refine B4 (fun g=>?_) (fun g=>?_)
 ·rw [Cc] at g
  have N:=mq.nonneg (by decide)
  have r:1<=q:=by
   by_cases M:1<=q
   ·exact M
   ·obtain rfl:q=0:=by omega
    omega
  refine O4 mr (mb.mono d) hr hb (by omega) (by omega) ?_
  intro A3 G O j e i M3
  refine ⟨_,_,_,rfl,Y4 O8 rfl ?_⟩
  intro b o
  refine ⟨_,_,_,rfl,?_⟩
  have k:=Heap.le_put (.cells #[U 1] C0) o
  have M1:Mw (j.put b (.cells #[U 1] C0)) (some ⟨b,0,none⟩) 1 1:=⟨[1],rfl,SlI.new j b [1] C0 _,Dig.one (by decide),by simp [Norm],S9 _ _⟩
  refine G0 ((mq.mono e).mono k) M1 hq (by omega) r ?_
  intro A5 S T V s E M5
  refine ⟨_,_,_,rfl,⟨_,_,_,_,_,_,_,_,rfl,A0 d (A0 e (A0 k s)),M5,E,(M3.mono k).mono s,i,by omega,?_,?_⟩,?_⟩
  ·rw [Int.sub_mul];omega
  ·rw [Int.sub_mul];omega
  ·simp only [Y3 M5,Y3 mq];omega
 ·rw [Cc] at g
  refine G0 mr (mp.mono d) hr (by omega) (by omega) ?_
  intro A3 G O j e i M3
  obtain ⟨F,H⟩:=Yt (x:=x) (a:=R-pr) (b:=q) (p:=y) (by rw [hR,aP y];omega) (by omega) (by omega)
  refine ⟨_,_,_,rfl,hK _ _ _ _ _ _ _ (A0 d e) hq i ?_ ?_⟩
  ·rw [F];exact mq.mono e
  ·rw [H];exact M3
set_option maxHeartbeats 1000000 in
def Qp{N:Nat}(ih:B6d N){x y:Int}{an bn m:Nat}(hm:0<m)(hN:m<=N)(hbm:bn=2*m)(ma:Mw h A an x)(mb:Mw h B bn y)(ha:an<=ac)(hb:bn<=bc)(hl:an<=1000000000)(hl2:bn<=200000000)(htop:9223372036854775808*b64^(bn-1)<=y)(hxy:x<b64^m*y)
 (hK:∀ A1 m1 c1 A2 m2 c2 h',h.le h'->m1<=c1->m2<=c2->Mw h' A1 m1 (x/y)->Mw h' A2 m2 (x%y)->K (.tuple #[.slice A1 m1 c1,.slice A2 m2 c2]) h'):aY prog R7 #[.slice A an ac,.slice B bn bc] h K:=by
 have ag:=ma.nonneg (by decide)
 have az:=mb.nonneg (by decide)
 have a4:=mb.lt (by decide)
 have p:=D6 (B:=b64) (by decide) m
 have ab:b64^bn=b64^m*b64^m:=by rw [<- aW];congr 1;omega
 have s:b64^(2*m)=b64^m*b64^m:=by rw [<- aW];congr 1;omega
 have aq:b64^(bn-1)=b64^m*b64^(m-1):=by rw [<- aW];congr 1;omega
 have a:=mb.high (k:=m) hb (by omega)
 rw [show bn-m=m by omega] at a
 have d:=a.nonneg (by decide)
 have au:=a.lt (by decide)
 have dy:b64^m*(y/b64^m)+y%b64^m=y:=aK _ _
 have V:=aR y (b:=b64^m) (by omega)
 have a9:=aJ y p
 have dx:b64^m*(x/b64^m)+x%b64^m=x:=aK _ _
 have a2:=aR x (b:=b64^m) (by omega)
 have ay:=aJ x p
 have a7:=D6 (B:=b64) (by decide) (m-1)
 have ao:9223372036854775808*b64^(m-1)<=y/b64^m:=by
  by_cases hc:9223372036854775808*b64^(m-1)<=y/b64^m
  ·exact hc
  ·have o:b64^m*(y/b64^m+1)<=b64^m*(9223372036854775808*b64^(m-1)):=aG (by omega) (by omega)
   have Q:b64^m*(9223372036854775808*b64^(m-1))=9223372036854775808*(b64^m*b64^(m-1)):=by grind
   rw [aq] at htop
   rw [cI] at o
   omega
 obtain ⟨Z,ak,sy,i,af,rfl⟩:=mb
 have mb:Mw h B bn (val b64 Z):=⟨Z,ak,sy,i,af,rfl⟩
 generalize hyv:val b64 Z=y at *
 refine Pm _ _ _ _ _ _ ?_
 unfold Lp
 have eh:B5 (dE ((bn:Nat):Int) 2)=(m:Int):=by rw [bB (by omega),B6 (by omega) (by omega)];omega
 have ai:B5 (2*(m:Int))=((2*m:Nat):Int):=by rw [B6 (by omega) (by omega)];omega
 simp only [eh,ai,aC,bV,H1]
 rw [show bn-m=m by omega]
 refine ⟨⟨by omega,by omega⟩,⟨by omega,by omega⟩,Hc (Hv sy (m:=m) (c:=bc) (by omega) (by omega)) (i.take m) (by rw [aF];omega) rfl (by omega) (by omega) ?_⟩
 intro yn aw Myl
 have H:=(Jr i m).2
 rw [aI (by omega),hyv] at H
 rw [<- H] at Myl
 refine ⟨_,_,_,rfl,B3 h,U9 ma ha ?_⟩
 intro A1 n1 c1 k1 a5 M1
 refine ⟨_,_,_,rfl,?_⟩
 have L:=M1.nonneg (by decide)
 refine ⟨fun l T=>∃ (Aq Ar:Option bN) (S cq O cr:Nat) (q r:Int),l=[.slice Aq S cq,.slice Ar O cr]/\h.le T/\Mw T Aq S q/\S<=cq/\Mw T Ar O r/\O<=cr/\q<b64^m/\x/b64^m=q*(y/b64^m)+r/\x-q*y<y,?_,?_⟩
 ·refine U9 ma ha ?_
  intro A2 n2 c2 k2 a6 M2
  refine ⟨_,_,_,rfl,G8 M2 a (by omega) ⟨_,rfl,?_⟩⟩
  have al:b64^(2*m)*(x/b64^(2*m))+x%b64^(2*m)=x:=aK _ _
  have am:=aR x (b:=b64^(2*m)) (by have:=D6 (B:=b64) (by decide) (2*m);omega)
  have aa:=aJ x (D6 (B:=b64) (by decide) (2*m))
  generalize x/b64^(2*m)=X2 at *
  rw [s] at al am aa
  refine B4 (fun M=>?_) (fun M=>?_)
  ·rw [Cc] at M
   have ht:=B2u (x:=x) (top:=x/b64^m) p (by rw [cI];omega) (by omega) M
   refine ih hN M1 a k1 (by omega) (by omega) (by omega) hm ao ht ?_
   intro A3 n3 c3 A4 n4 c4 h3 n k3 k4 M3 M4
   have J:0<y/b64^m:=by omega
   have d1:=aK (x/b64^m) (y/b64^m)
   have d2:=aJ (x/b64^m) J
   have d0:=M3.nonneg (by decide)
   refine ⟨_,_,_,_,_,_,rfl,_,_,_,_,_,_,_,_,rfl,n,M3,k3,M4,k4,bC J ht,by rw [aP];omega,?_⟩
   generalize (x/b64^m)/(y/b64^m)=q at *
   generalize (x/b64^m)%(y/b64^m)=r at *
   generalize x/b64^m=top at *
   generalize y/b64^m=yh at *
   generalize y%b64^m=yl at *
   generalize x%b64^m=xl at *
   generalize b64^m=P at *
   have o:P*(r+1)<=P*yh:=aG (by omega) (by omega)
   have Q:x-q*y=P*r+xl-q*yl:=by rw [<- dx,<- dy,<- d1];grind
   have t3:=aQ d0 V
   rw [cI] at o
   omega
  ·rw [Cc] at M
   have ht:=B2v (x:=x) (top:=x/b64^m) (yh:=y/b64^m) (X2:=X2) p (by omega) (by rw [cI];omega) (by omega)
   refine Y4 O8 rfl ?_
   intro b ah
   refine ⟨_,_,_,rfl,?_⟩
   have l4:=Heap.le_put (.cells #[U 18446744073709551615] C0) ah
   refine A3b (v:=18446744073709551615) (SlI.new h b [18446744073709551615] C0 _) hm (by omega) ?_
   intro A5 h5 w s5
   refine ⟨_,_,_,rfl,?_⟩
   have F:=A0 l4 w
   refine Fz (a.mono F) (Mag.zero (k:=.u64) (B:=b64)) (by omega) (by omega) ?_
   intro A6 n6 c6 h6 l6 k6 M6
   refine ⟨_,_,_,rfl,?_⟩
   have g:=A0 F l6
   refine G0 (M1.mono g) M6 k1 (by omega) (by rw [aP];omega) ?_
   intro A7 n7 c7 h7 E k7 M7
   have av:n7<=an:=M7.len_le (by decide) (by
    have:=ma.lt (by decide)
    have o:=aQ d (aL p)
    have Q:1*(x/b64^m)<=b64^m*(x/b64^m):=aD (by omega) L
    omega)
   refine ⟨_,_,_,rfl,?_⟩
   refine O4 M7 ((a.mono g).mono E) k7 (by omega) (by omega) (by omega) ?_
   intro A8 n8 c8 h8 l8 k8 M8
   have G:∀ j:Nat,val b64 (aE j 18446744073709551615)=b64^j-1:=by
    intro j
    induction j with
    | zero=>rfl
    | succ j ihj=>
     rw [List.replicate_succ,val,ihj,aZ]
     show (18446744073709551615:Int)+18446744073709551616*(b64^j-1)=b64^j*18446744073709551616-1
     omega
   have M5:Mw h5 A5 m (b64^m-1):=by
    refine ⟨aE m 18446744073709551615,by simp,s5,?_,?_,G m⟩
    ·intro z hz
     have:=List.eq_of_mem_replicate hz
     subst this;decide
    ·obtain ⟨j,rfl⟩:∃ j,m=j+1:=⟨m-1,by omega⟩
     unfold Norm
     rw [List.replicate_succ']
     simp
   refine ⟨_,_,_,rfl,_,_,_,_,_,_,_,_,rfl,A0 g (A0 E l8),((M5.mono l6).mono E).mono l8,bD _,M8,k8,by omega,?_,?_⟩
   ·grind
   ·have:(b64^m-1)*y=b64^m*y-y:=by grind
    omega
 ·rintro Aq' aj ax Ar' ad a8 T ⟨Aq,Ar,S,cq,O,cr,q,r,D,X,R,hq,mr,hr,e,ae,ap⟩
  simp only [bO,cL,and_true] at D
  obtain ⟨⟨rfl,rfl,rfl⟩,rfl,rfl,rfl⟩:=D
  have C:=R.nonneg (by decide)
  have a3:=mr.nonneg (by decide)
  have a0:aj<=m:=R.len_le (by decide) e
  have a1:ad<=an:=mr.len_le (by decide) (by
   have:=ma.lt (by decide)
   have o:=aQ C d
   have Q:1*(x/b64^m)<=b64^m*(x/b64^m):=aD (by omega) L
   omega)
  refine G1 R (Myl.mono X) hq (by omega) (by omega) (by omega) ?_
  intro A3 n3 c3 h3 n k3 M3
  refine ⟨_,_,_,rfl,Dx (ma.mono (A0 X n)) ha (by omega) ?_⟩
  intro A4 n4 c4 k4 W ar M4
  refine ⟨_,_,_,rfl,Fz (mr.mono n) M4 W (by omega) ?_⟩
  intro A5 n5 c5 h5 w k5 M5
  have u:=A0 X (A0 n w)
  refine ⟨_,_,_,rfl,A2w (q0:=q) (m:=m) ag (mb.mono u) hb hl2 hbm ((R.mono n).mono w) hq (M3.mono w) ?_ M5 k5 e ?_ ap ?_⟩
  ·rw [ab]
   have o:q*(y%b64^m)<=q*b64^m:=aG (by omega) C
   have Q:q*b64^m<b64^m*b64^m:=bI e p
   omega
  ·generalize x/b64^m=top at *
   generalize y/b64^m=yh at *
   generalize y%b64^m=yl at *
   generalize x%b64^m=xl at *
   generalize b64^m=P at *
   rw [<- dx,<- dy,ae];grind
  ·intro A6 n6 c6 A7 n7 c7 h7 E k6 k7 M6 M7
   exact hK _ _ _ _ _ _ _ (A0 u E) k6 k7 M6 M7
end
set_option maxHeartbeats 1000000 in
def B9h:∀ N,B6d N:=by
 intro N
 induction N with
 | zero=>intro h K A B L T V d x y M _ _ _ _ _ _ s;omega
 | succ N ih=>
  intro h K A B L T V d x y hN n i w H hl k ai g j X
  have ag:=n.nonneg (by decide)
  have ab:=i.nonneg (by decide)
  have e:0<y:=by
   have:=D6 (B:=b64) (by decide) (d-1);omega
  refine Po _ _ _ _ _ _ ?_
  unfold Ls
  have c:aY prog H0 #[.slice A V L,.slice B d T] h (fun r hp=>∃ (t22aA:Option bN) (t22an:Nat) (t22ac:Nat) (t22bA:Option bN) (t22bn:Nat) (t22bc:Nat),r= .tuple #[.slice t22aA t22an t22ac,.slice t22bA t22bn t22bc]/\K (.tuple #[.slice t22aA t22an t22ac,.slice t22bA t22bn t22bc]) hp):=by
   refine Dd n i w H (by omega) hl (by omega) ?_
   intro A1 m1 c1 A2 m2 c2 h' l G W M1 M2
   exact ⟨_,_,_,_,_,_,rfl,X _ _ _ _ _ _ _ l G W M1 M2⟩
  refine B4 (fun M=>c) (fun M=>?_)
  refine N8 (fun s=>c) (fun s=>?_)
  rw [bW (by omega)] at s
  obtain ⟨m,hbm⟩:∃ m,d=2*m:=⟨d/2,by omega⟩
  have eh:B5 (dE ((d:Nat):Int) 2)=(m:Int):=by rw [bB (by omega),B6 (by omega) (by omega)];omega
  simp only [eh]
  have S:=D6 (B:=b64) (by decide) m
  have z:b64^d=b64^m*b64^m:=by rw [<- aW];congr 1;omega
  have dx:b64^m*(x/b64^m)+x%b64^m=x:=aK _ _
  have ae:=aR x (b:=b64^m) (by omega)
  have aa:=aJ x S
  rw [z] at j
  refine U9 n w ?_
  intro A1 n1 c1 G ah M1
  refine ⟨_,_,_,rfl,?_⟩
  have Z:x/b64^m<b64^m*y:=by
   by_cases hc:x/b64^m<b64^m*y
   ·exact hc
   ·have D:b64^m*(b64^m*y)<=b64^m*(x/b64^m):=aG (by omega) (by omega)
    rw [cD] at j
    omega
  refine Qp ih (by omega) (by omega) hbm M1 i G H (by omega) k g Z ?_
  intro A2 n2 c2 A3 n3 c3 h3 q W k3 M2 M3
  refine ⟨_,_,_,_,_,_,rfl,Dx (n.mono q) w (by omega) ?_⟩
  intro A4 n4 c4 k4 o R M4
  have d1:=aK (x/b64^m) y
  have d2:=aJ (x/b64^m) e
  have d3:=aR (x/b64^m) (b:=y) (by omega)
  have E:x/b64^m/y<b64^m:=bC e Z
  have aj:n3<=d:=M3.len_le (by decide) (by have:=i.lt (by decide);omega)
  have ad:n2<=m:=M2.len_le (by decide) E
  refine ⟨_,_,_,rfl,Fz M3 M4 o (by omega) ?_⟩
  intro A5 n5 c5 h5 u k5 M5
  refine ⟨_,_,_,rfl,?_⟩
  have Q:(x/b64^m)%y*b64^m+x%b64^m<b64^m*y:=by
   have D:b64^m*((x/b64^m)%y+1)<=b64^m*y:=aG (by omega) (by omega)
   rw [cI,aP] at D
   omega
  have af:n5<=d+m:=M5.len_le (by decide) (by
   have D:b64^m*y<b64^m*b64^d:=bX (i.lt (by decide)) S
   rw [Nat.add_comm,aW];omega)
  refine Qp ih (by omega) (by omega) hbm M5 (i.mono (A0 q u)) k5 H (by omega) k g Q ?_
  intro A6 n6 c6 A7 n7 c7 h7 O k6 k7 M6 M7
  have C:n6<=m:=M6.len_le (by decide) (bC e Q)
  refine ⟨_,_,_,_,_,_,rfl,Fz ((M2.mono u).mono O) M6 C (by omega) ?_⟩
  intro A8 n8 c8 h8 J k8 M8
  refine ⟨_,_,_,rfl,?_⟩
  have e1:=aK ((x/b64^m)%y*b64^m+x%b64^m) y
  have e2:=aJ ((x/b64^m)%y*b64^m+x%b64^m) e
  have e3:=aR ((x/b64^m)%y*b64^m+x%b64^m) (b:=y) (by omega)
  have M7':=M7.mono J
  have F:=A0 q (A0 u (A0 O J))
  generalize ((x/b64^m)%y*b64^m+x%b64^m)/y=q2 at *
  obtain ⟨f1,f2⟩:=Yt (x:=x) (a:=((x/b64^m)%y*b64^m+x%b64^m)%y) (b:=x/b64^m/y*b64^m+q2) (p:=y) (by
   generalize ((x/b64^m)%y*b64^m+x%b64^m)%y=r2 at *
   generalize x/b64^m/y=q1 at *
   generalize x/b64^m%y=r1 at *
   generalize x/b64^m=top at *
   generalize x%b64^m=xl at *
   generalize b64^m=P at *
   grind) e3 e2
  refine X _ _ _ _ _ _ _ F k8 k7 ?_ ?_
  ·rw [f1];exact M8
  ·rw [f2];exact M7'
def Vk{ys:List Int}{k t s:Nat}(dy:Dig b64 ys)(hk:ys.length=k+1)(ht:ys.getD k 0=(t:Int))(ht0:t≠0)(hs:s=64-I9 t):s<64/\val b64 ys*2^s<b64^(k+1)/\9223372036854775808*b64^k<=val b64 ys*2^s:=by
 have u:=L6 dy k
 obtain ⟨g,a⟩:=Al (B:=b64) (by decide) dy (m:=k) hk
 rw [ht] at u g a
 obtain ⟨o,q⟩:=Bj ht0
 have p:I9 t<=64:=Ep (k:=64) (by omega)
 have r:1<=I9 t:=by unfold I9;rw [iN ht0];omega
 have d:s<64:=by omega
 have c:0<(2:Int)^s:=bG (by decide)
 have n:=W5 (s:=s) (by omega)
 have b:I9 t=64-s:=by omega
 have l:(t:Int)+1<=2^(64-s):=by
  rw [<- b]
  have:((t+1:Nat):Int)<=((2^I9 t:Nat):Int):=by omega
  simpa using this
 have j:(2:Int)^(63-s)<=t:=by
  have:((2^(I9 t-1):Nat):Int)<=((t:Nat):Int):=by omega
  rw [show I9 t-1=63-s by omega] at this
  simpa using this
 have i:(2:Int)^s*2^(63-s)=9223372036854775808:=by
  rw [<- aW,show s+(63-s)=63 by omega];decide
 have e:=D6 (B:=b64) (by decide) k
 refine ⟨d,?_,?_⟩
 ·have w:val b64 ys*2^s<((t:Int)+1)*b64^k*2^s:=bI g c
  have x:((t:Int)+1)*b64^k*2^s=((t:Int)+1)*2^s*b64^k:=by grind
  have A:((t:Int)+1)*2^s*b64^k<=18446744073709551616*b64^k:=by
   apply aD _ (aL e)
   rw [<- n,aP (2^s)]
   exact aD l (aL c)
  have z:b64^(k+1)=18446744073709551616*b64^k:=by rw [aZ b64 k,aP]
  omega
 ·have y:(t:Int)*b64^k*2^s<=val b64 ys*2^s:=aD a (aL c)
  have w:9223372036854775808*b64^k<=(t:Int)*2^s*b64^k:=by
   apply aD _ (aL e)
   rw [<- i,aP (t:Int)]
   exact aG j (by omega)
  have x:(t:Int)*2^s*b64^k=(t:Int)*b64^k*2^s:=by grind
  omega
section
variable {h g:bJ} {K:VP} {A B:Option bN} {ac bc:Nat}
set_option maxHeartbeats 1000000 in
def A42{D V a b:Int}{S sh dn dc vc bn bq:Nat}{pieces t46:Int}{DA VA:Option bN}(hS:B5 ((B5 (dE (B5 ((B5 (((bn:Nat):Int)+pieces))-(1:Int))) pieces))*pieces)=(S:Int))
 (hsh:B8 (B5 ((B5 ((64:Int)*(B5 ((S:Int)-((bn:Nat):Int)))))+t46))=(sh:Int)) (hS0:0<S) (hS2:S<=200000000) (hsh2:sh<=100000000000) (hb:h bq=none) (hD:Mw h DA dn D) (hdc:dn<=dc) (hdn:0<dn) (hdl:dn<=2000000000) (hV:Mw h VA S V) (hvc:S<=vc) (hVt:9223372036854775808*b64^(S-1)<=V)
 (hDa:D=a*2^sh) (hVb:V=b*2^sh)
 (hK:∀ A1 m1 c1 A2 m2 c2 h',h.le h'->m1<=c1->m2<=c2->Mw h' A1 m1 (a/b)->Mw h' A2 m2 (a%b)->K (.tuple #[.slice A1 m1 c1,.slice A2 m2 c2]) h'):
 Z1 prog bn K pieces t46 VA S vc DA dn dc (some ⟨bq,0,none⟩) (dn+S) (dn+S) (blk .u64 C0 h bq (aE (dn+S) 0)):=by
 have L:=hD.nonneg (by decide)
 have ak:=hD.lt (by decide)
 have H:=hV.lt (by decide)
 have q:0<V:=by have:=D6 (B:=b64) (by decide) (S-1);omega
 have X:0<(2:Int)^sh:=bG (by decide)
 have hQ:=D6 (B:=b64) (by decide) S
 unfold Z1
 simp only [hS,hsh]
 obtain ⟨nb,hnb⟩:∃ nb,nb=(dn-1)/S:=⟨_,rfl⟩
 have ai:nb*S<=dn-1:=by rw [hnb];exact Nat.div_mul_le_self _ _
 have al:dn-1<nb*S+S:=by
  have C:=dU (dn-1) S
  have h2:=eF (dn-1) hS0
  rw [<- hnb,eG] at C
  omega
 have e1:B5 (B5 (dE (B5 ((dn:Int)-1)) (S:Int))*(S:Int))=((nb+1:Nat):Int)*S-S:=by
  rw [B6 (n:=(dn:Int)-1) (by omega) (by omega),show (dn:Int)-1=((dn-1:Nat):Int) by omega,<- cT,<- hnb]
  have:nb<=dn-1:=by rw [hnb];exact eU _ _
  have Z:(nb:Int)*(S:Int)=((nb*S:Nat):Int):=by simp
  rw [B6 (n:=(nb:Int)) (by omega) (by omega),Z,B6 (by omega) (by omega),eV,Int.add_mul,Z]
  omega
 refine ⟨fun l X=>∃ (j n c:Nat) (A:Option bN) (d:List Int) (r:Int) (g:bJ),l=[.slice A n c,I ((j:Int)*S-S)]/\h.le g/\j*S+d.length=dn+S/\Dig b64 d/\Win .u64 X g bq C0 (some ⟨bq,0,none⟩) [] (aE (j*S) 0++d) []/\Mw g A n r/\n<=c/\r=(D/b64^(j*S))%V/\val b64 d=(D/b64^(j*S))/V,fun l _=>(iAt l 1+S).toNat,⟨nb+1,0,0,none,aE (dn-1+1-nb*S) 0,0,h,by rw [e1],B3 h,?_,G4 (by decide) _,?_,Mag.zero,bD _,?_,?_⟩,?_⟩
 ·rw [bY,dJ,dI];omega
 ·rw [cU,show (nb+1)*S+(dn-1+1-nb*S)=dn+S by rw [dJ,dI];omega]
  exact Win.blk .u64 C0 hb _
 ·have:=D5 (B:=b64) (by decide) (show dn<=(nb+1)*S by rw [dJ,dI];omega)
  rw [bK L (by omega),fE]
 ·have:=D5 (B:=b64) (by decide) (show dn<=(nb+1)*S by rw [dJ,dI];omega)
  rw [bK L (by omega),Int.zero_ediv,Au]
 rintro A1 n1 c1 st aq ⟨j,n,c,A',d,r,g,J,lg,u,O,w,Mr,ar,z,k⟩
 simp only [bO,cL,dA,and_true,true_and] at J
 obtain ⟨⟨rfl,rfl,rfl⟩,rfl⟩:=J
 refine B4 (fun C=>?_) (fun C=>?_)
 ·obtain ⟨i,rfl⟩:∃ i,j=i+1:=⟨j-1,by
   rcases j with _|j
   ·simp at C;omega
   ·rfl⟩
  obtain ⟨e,he⟩:∃ e,e=i*S:=⟨_,rfl⟩
  have E:(i+1)*S=e+S:=by rw [he,dJ,dI]
  have ab:((i+1:Nat):Int)*(S:Int)-(S:Int)=(e:Int):=by rw [<- bU,E];omega
  rw [E] at u w z k
  rw [ab]
  have ax:=D6 (B:=b64) (by decide) e
  refine w.call (U9 (hD.mono lg) hdc ?_)
  intro A2 n2 c2 k2 az M2 h2 w2
  refine ⟨_,_,_,rfl,w2.call (Dx M2 k2 (by omega) ?_)⟩
  intro A3 n3 c3 k3 ac aj M3 Z w3
  have aw:=Mr.nonneg (by decide)
  have an:r<V:=by rw [z];exact aJ _ q
  have am:n1<=S:=Mr.len_le (by decide) (by omega)
  refine ⟨_,_,_,rfl,w3.call (Fz Mr M3 ac (by omega) ?_)⟩
  intro A4 n4 c4 g4 l4 k4 M4 h4 w4
  have ae:D/b64^(e+S)=D/b64^e/b64^S:=by rw [aW,dP (by omega)]
  rw [ae] at z k
  have dm:=aK (D/b64^e) (b64^S)
  have a0:=aR (D/b64^e) (b:=b64^S) (by omega)
  have au:=aJ (D/b64^e) hQ
  generalize hD1:D/b64^e=D1 at *
  have s:r*b64^S+D1%b64^S<b64^S*V:=by
   have t1:b64^S*(r+1)<=b64^S*V:=aG (by omega) (by omega)
   rw [cI,aP] at t1
   omega
  have ap:n4<=S+S:=M4.len_le (by decide) (by
   have t1:b64^S*V<b64^S*b64^S:=bX H hQ
   rw [aW];omega)
  have N:=A0 lg l4
  refine ⟨_,_,_,rfl,w4.call (B9h S (bD _) M4 (hV.mono N) k4 hvc (by omega) hS2 hS0 hVt s ?_)⟩
  intro A5 n5 c5 A6 n6 c6 g6 l6 k5 k6 M5 M6 h6 T
  have av:n5<=S:=M5.len_le (by decide) (bC q s)
  refine ⟨_,_,_,_,_,_,rfl,⟨by omega,by omega⟩,?_⟩
  rw [aC]
  have ag:aE (e+S) (0:Int)++d=aE e 0++(aE S 0++d):=by rw [<- bF,cU]
  rw [ag] at T
  have ao:(aE e (0:Int)++(aE S 0++d)).length=dn+S:=by simp only [aN,bY];omega
  have w7:=T.sub (l:=e) (m:=dn+S) (c:=dn+S) (by omega) (by omega) (by omega)
  have e7:((aE e (0:Int)++(aE S 0++d)).drop e).take (dn+S-e)=aE S 0++d:=by
   rw [dC (by simp),aM (by simp only [aN,bY];omega)]
  rw [e7] at w7
  obtain ⟨y,R,ah,aa,ay,M⟩:=M5
  refine Eo O8 w7 (by simp only [aN,bY];omega) (ah.mono T.le) R (by simp only [aN,bY];omega) ?_
  intro h8 w8
  rw [cZ (by simp;omega),bA,<- bF y] at w8
  have o:(y++aE (S-y.length) (0:Int)).length=S:=by simp;omega
  have w9:=T.whole (l:=e) (m:=dn+S) (by omega) (by omega) (by rw [aN,o];omega) w8
  rw [cP (by simp),aX (show (aE e (0:Int)++(aE S 0++d)).length<=dn+S by omega),cC] at w9
  have e8:B5 ((e:Int)-(S:Int))=((i:Nat):Int)*S-S:=by
   rw [B6 (by omega) (by omega),he,bU]
  have a1:=aK (r*b64^S+D1%b64^S) V
  have F:=aR (r*b64^S+D1%b64^S) (b:=V) (by omega)
  have G:=aJ (r*b64^S+D1%b64^S) q
  have ad:=aK (D1/b64^S) V
  rw [<- z,<- k] at ad
  obtain ⟨f1,f2⟩:=Yt (x:=D1) (a:=(r*b64^S+D1%b64^S)%V) (b:=val b64 y+b64^S*val b64 d) (p:=V) (by
   rw [M]
   generalize (r*b64^S+D1%b64^S)%V=r2 at *
   generalize hq2:(r*b64^S+D1%b64^S)/V=q2 at *
   generalize D1%b64^S=bl at *
   generalize D1/b64^S=D2 at *
   generalize b64^S=Q at *
   generalize val b64 d=W at *
   grind) F G
  refine ⟨_,rfl,?_⟩
  rw [e8]
  refine ⟨⟨i,_,_,_,(y++aE (S-y.length) 0)++d,_,g6,rfl,A0 N l6,?_,?_,?_,M6,k6,?_,?_⟩,?_⟩
  ·rw [aN,o];omega
  ·exact (aa.append (G4 (by decide) _)).append O
  ·rw [<- he];exact w9
  ·rw [<- he,hD1,f2]
  ·rw [<- he,hD1,f1,H6,o,Bm]
  ·simp only [iAt,aO,aH]
   rw [<- bU,<- he]
   omega
 ·obtain rfl:j=0:=by
   rcases j with _|j
   ·rfl
   ·rw [<- bU,dJ,dI] at C
    omega
  rw [fI,List.replicate_zero,cA] at w
  rw [fI,fO,Int.ediv_one] at z k
  rw [fI,fJ] at u
  have af:0<b:=by
   by_cases hc:0<b
   ·exact hc
   ·have:=aD (show b<=0 by omega) (aL X);omega
  obtain ⟨f1,f2⟩:=Yt (x:=D) (a:=(a%b)*2^sh) (b:=a/b) (p:=V) (by
   have:=aK a b
   rw [hDa,hVb]
   conv=>rhs;rw [<- this]
   grind) (aQ (aR _ (by omega)) (by omega)) (by rw [hVb];exact bI (aJ _ af) X)
  refine Hc w.sl O u.symm k (by omega) (by omega) ?_
  intro m2 k2 M2
  refine ⟨_,_,_,rfl,?_⟩
  refine Et (Mr.mono w.le) (by have:=Mr.len_le (j:=S) (by decide) (by have:=aJ D q;omega);omega) (by omega) ?_
  intro A3 n3 c3 Z l3 k3 M3
  rw [z,f2,eD _ (by omega)] at M3
  rw [f1] at M2
  exact ⟨_,_,_,rfl,hK _ _ _ _ _ _ _ (A0 lg (A0 w.le l3)) k2 k3 (M2.mono l3) M3⟩
set_option maxHeartbeats 1000000 in
def No{x y:Int}{an bn:Nat}(ma:Mw h A an x)(mb:Mw h B bn y)(ha:an<=ac)(hbc:bn<=bc)(hl:an<=800000000)(hl2:bn<=100000000)(ha0:0<an)(hb0:0<bn)
 (hK:∀ A1 m1 c1 A2 m2 c2 h',h.le h'->m1<=c1->m2<=c2->Mw h' A1 m1 (x/y)->Mw h' A2 m2 (x%y)->K (.tuple #[.slice A1 m1 c1,.slice A2 m2 c2]) h'):aY prog Bf #[.slice A an ac,.slice B bn bc] h K:=by
 have af:=ma.nonneg (by decide)
 have ab:=ma.len_zero (by decide)
 have o:=ma.lt (by decide)
 refine Pp _ _ _ _ _ _ ?_
 unfold Lu Gv
 refine ⟨fun l W=>W=h/\∃ p:Nat,l=[I p]/\0<p/\p<=bn,fun l _=>bn-(iAt l 0).toNat,⟨rfl,1,rfl,by omega,by omega⟩,?_⟩
 rintro z W ⟨rfl,p,J,u,ah⟩
 obtain rfl:=sI1 J
 have e1:B5 (dE (B5 (B5 ((bn:Int)+(p:Int))-1)) (p:Int))=(((bn+p-1)/p:Nat):Int):=by
  rw [B6 (n:=(bn:Int)+p) (by omega) (by omega),B6 (n:=(bn:Int)+p-1) (by omega) (by omega),show (bn:Int)+p-1=((bn+p-1:Nat):Int) by omega,<- cT]
  have:(bn+p-1)/p<=bn+p-1:=eU _ _
  generalize (bn+p-1)/p=q at *
  rw [B6 (by omega) (by omega)]
 refine B4 (fun c=>by omega) (fun _=>?_)
 obtain ⟨S,hS⟩:∃ S,S=(bn+p-1)/p*p:=⟨_,rfl⟩
 have ai:bn<=S/\S<=bn+p-1:=by
  have c:=dU (bn+p-1) p
  have N:=eF (bn+p-1) u
  rw [eG,<- hS] at c
  omega
 have e2:B5 ((B5 (dE (B5 (B5 ((bn:Int)+(p:Int))-1)) (p:Int)))*(p:Int))=(S:Int):=by
  rw [e1,<- bU,<- hS,B6 (by omega) (by omega)]
 refine B4 (fun c=>?_) (fun c=>?_)
 ·rw [e1] at c
  have N:80<=(bn+p-1)/p:=by omega
  rw [Nat.le_div_iff_mul_le u] at N
  have F:B5 ((p:Int)*2)=((p*2:Nat):Int):=by rw [B6 (by omega) (by omega)];omega
  rw [F]
  exact ⟨⟨rfl,_,rfl,by omega,by omega⟩,by simp only [iAt,aH];omega⟩
 ·refine B4 (fun c=>by omega) (fun _=>?_)
  obtain ⟨k,hk⟩:∃ k,bn=k+1:=⟨bn-1,by omega⟩
  have O:=mb
  obtain ⟨a,C,sy,Z,ny,rfl⟩:=mb
  have d:a.length=k+1:=by omega
  have gt:=L6 Z k
  have M:=A08 d ny
  have F:B5 ((bn:Int)-1)=(k:Int):=by rw [B6 (by omega) (by omega)];omega
  rw [F]
  subst C
  refine sy.load rfl (by omega) (by omega) ?_
  rw [aC]
  obtain ⟨t,ht⟩:∃ t:Nat,a.getD k 0=t:=⟨(a.getD k 0).toNat,by omega⟩
  rw [ht] at gt M ⊢
  refine O0 (by omega) ⟨_,rfl,?_⟩
  obtain ⟨s,hs⟩:∃ s,s=64-I9 t:=⟨_,rfl⟩
  rw [<- hs]
  obtain ⟨aa,G,H⟩:=Vk Z d ht (by omega) hs
  simp only [e2]
  obtain ⟨sh,hsh⟩:∃ sh,sh=64*(S-a.length)+s:=⟨_,rfl⟩
  have e4:B8 (B5 (B5 (64*B5 ((S:Int)-(a.length:Int)))+(s:Int)))=(sh:Int):=by
   rw [B6 (n:=(S:Int)-(a.length:Int)) (by omega) (by omega),B6 (n:=64*((S:Int)-(a.length:Int))) (by omega) (by omega),B6 (by omega) (by omega),B9 (by omega) (by omega)]
   omega
  simp only [e4]
  have g:(2:Int)^sh=2^s*b64^(S-a.length):=by rw [hsh,aW,Fw,aP]
  have i:=D6 (B:=b64) (by decide) (S-a.length)
  have ae:0<(2:Int)^s:=bG (by decide)
  have r:0<(2:Int)^sh:=bG (by decide)
  have ad:val b64 a*2^sh=val b64 a*2^s*b64^(S-a.length):=by rw [g,cD]
  have T:val b64 a*2^sh<b64^S:=by
   have w:val b64 a*2^s*b64^(S-a.length)<b64^(k+1)*b64^(S-a.length):=bI G i
   rw [<- aW,show k+1+(S-a.length)=S by omega] at w
   omega
  have Q:9223372036854775808*b64^(S-1)<=val b64 a*2^sh:=by
   have w:9223372036854775808*b64^k*b64^(S-a.length)<=val b64 a*2^s*b64^(S-a.length):=aD H (aL i)
   rw [cD,<- aW,show k+(S-a.length)=S-1 by omega] at w
   omega
  refine Q9 O hbc (by omega) (by omega) ?_
  intro A1 b c1 c X k1 M1
  refine ⟨_,_,_,rfl,?_⟩
  have R:b=S:=by
   have q1:=M1.len_le (by decide) T
   have q2:=M1.lt (by decide)
   by_cases hc:b=S
   ·exact hc
   ·have:=D5 (B:=b64) (by decide) (show b<=S-1 by omega)
    have:=D6 (B:=b64) (by decide) (S-1)
    omega
  subst R
  refine Q9 (ma.mono X) ha (by omega) (by omega) ?_
  intro A2 m c2 N l2 k2 M2
  refine ⟨_,_,_,rfl,?_⟩
  have ag:m<=an+(1+(b-a.length)):=M2.len_le (by decide) (by
   have w:x*2^sh<b64^an*2^sh:=bI o r
   have t2:(2:Int)^sh<=b64^(1+(b-a.length)):=by
    rw [g,aW]
    apply aD _ (aL i)
    have:=D5 (B:=2) (by decide) (show s<=64 by omega)
    have e:(2:Int)^64=18446744073709551616:=by decide
    show (2:Int)^s<=b64^1
    rw [aZ,fO]
    show (2:Int)^s<=1*18446744073709551616
    omega
   have t3:b64^an*2^sh<=b64^an*b64^(1+(b-a.length)):=aG t2 (aL (D6 (by decide) an))
   rw [aW b64 an]
   omega)
  have j:0<m:=by
   rcases Nat.eq_zero_or_pos m with E|E
   ·have:=(M2.len_zero (by decide)).2 E
    rcases Int.mul_eq_zero.1 this with h3|h3<;>omega
   ·exact E
  have e5:B5 ((m:Int)+(b:Int))=((m+b:Nat):Int):=by rw [B6 (by omega) (by omega)];omega
  rw [e5]
  refine I3 O8 (by omega) (by omega) (by omega) ?_
  intro bq L
  rw [aC]
  refine ⟨_,_,_,rfl,?_⟩
  refine B4 (fun c=>by omega) (fun _=>?_)
  refine A42 (D:=x*2^sh) (V:=val b64 a*2^sh) (sh:=sh) (S:=b) e2 e4 (by omega) (by omega) (by omega) L M2 k2 j (by omega) (M1.mono l2) k1 Q rfl rfl ?_
  intro A3 n3 c3 A4 n4 c4 h4 l4 k3 k4 M3 M4
  exact hK _ _ _ _ _ _ _ (A0 X (A0 l2 l4)) k3 k4 M3 M4
def Y7{x y:Int}{an bn:Nat}(ma:Mw h A an x)(mb:Mw h B bn y)(ha:an<=ac)(hbc:bn<=bc)(hy:y≠0)(hl:an<=800000000)(hl2:bn<=100000000)
 (hK:∀ A1 m1 c1 A2 m2 c2 h',h.le h'->m1<=c1->m2<=c2->Mw h' A1 m1 (x/y)->Mw h' A2 m2 (x%y)->K (.tuple #[.slice A1 m1 c1,.slice A2 m2 c2]) h'):aY prog P6 #[.slice A an ac,.slice B bn bc] h K:=by
 refine Tj _ _ _ _ _ _ ?_
 unfold Pb
 have a:aY prog H0 #[.slice A an ac,.slice B bn bc] h (fun r d=>∃ (t22aA:Option bN) (t22an:Nat) (t22ac:Nat) (t22bA:Option bN) (t22bn:Nat) (t22bc:Nat),r= .tuple #[.slice t22aA t22an t22ac,.slice t22bA t22bn t22bc]/\K (.tuple #[.slice t22aA t22an t22ac,.slice t22bA t22bn t22bc]) d):=by
  refine Dd ma mb ha hbc hy (by omega) (by omega) ?_
  intro A1 m1 c1 A2 m2 c2 h' l c b M1 M2
  exact ⟨_,_,_,_,_,_,rfl,hK _ _ _ _ _ _ _ l c b M1 M2⟩
 refine B4 (fun g=>B4 (fun e=>?_) (fun _=>a)) (fun _=>a)
 rw [B6 (by omega) (by omega)] at e
 refine No ma mb ha hbc hl hl2 (by omega) (by omega) ?_
 intro A1 m1 c1 A2 m2 c2 h' l c b M1 M2
 exact ⟨_,_,_,_,_,_,rfl,hK _ _ _ _ _ _ _ l c b M1 M2⟩
end
def TZ(x k:Nat):Prop:=∃ m,x=2^k*(2*m+1)
def TZ.ex:∀ {x:Nat},x≠0->∃ k,TZ x k:=by
 intro x
 induction x using Nat.strongRecOn with
 | _ x ih=>
  intro h
  rcases Nat.mod_two_eq_zero_or_one x with b|b
  ·obtain ⟨k,m,a⟩:=ih (x/2) (by omega) (by omega)
   refine ⟨k+1,m,?_⟩
   rw [Nat.pow_succ,eG (2^k),eE,<- a];omega
  ·exact ⟨0,x/2,by omega⟩
def TZ.lt{x k n:Nat}(h:TZ x k)(hx:x<2^n):k<n:=by
 obtain ⟨m,rfl⟩:=h
 have b:2^k*1<=2^k*(2*m+1):=Nat.mul_le_mul_left _ (by omega)
 exact (Nat.pow_lt_pow_iff_right (a:=2) (by decide)).1 (by omega)
def A92{a u v:Nat}:(2^a*u) ||| (2^a*v)=2^a*(u ||| v):=by
 apply Nat.eq_of_testBit_eq
 intro i
 simp only [Nat.testBit_or,fF,Bool.and_or_distrib_left]
def B56{u v:Nat}(h:u%2=1\/v%2=1):(u ||| v)%2=1:=by simpa using h
def TZ.or'{x y a b:Nat}(hx:TZ x a)(hy:TZ y b)(hab:a<=b):TZ (x ||| y) a/\TZ (y ||| x) a:=by
 obtain ⟨m,rfl⟩:=hx
 obtain ⟨n,rfl⟩:=hy
 obtain ⟨d,rfl⟩:∃ d,b=a+d:=⟨b-a,by omega⟩
 rw [Nat.pow_add,eE,A92,A92]
 have c:=B56 (u:=2*m+1) (v:=2^d*(2*n+1)) (.inl (by omega))
 have e:=B56 (u:=2^d*(2*n+1)) (v:=2*m+1) (.inr (by omega))
 exact ⟨⟨_/2,by rw [<- dU (_ ||| _) 2,c]⟩,⟨_/2,by rw [<- dU (_ ||| _) 2,e]⟩⟩
def TZ.or{x y a b:Nat}(hx:TZ x a)(hy:TZ y b):TZ (x ||| y) (min a b):=by
 by_cases h:a<=b
 ·rw [aI h];exact (hx.or' hy h).1
 ·rw [dM (by omega)];exact (hy.or' hx (by omega)).2
def TZ.bit{x k:Nat}(h:TZ x k)(hx:x<2^64):x &&& (2^64-x)=2^k:=by
 obtain ⟨m,rfl⟩:=h
 have j:0<2^k:=cY (by decide)
 have c:2^k*(2*m+1)=2^k*(2*m)+(2^k-1)+1:=by rw [Nat.mul_add,eA];omega
 apply Nat.eq_of_testBit_eq
 intro i
 rw [Nat.testBit_and]
 have g:(2^64-2^k*(2*m+1)).testBit i=(decide (i<64) && !(2^k*(2*m)+(2^k-1)).testBit i):=by
  rw [c];exact Nat.testBit_two_pow_sub_succ (by omega) i
 rw [g,Nat.testBit_two_pow_mul_add _ (by omega),fF,Nat.testBit_two_pow]
 by_cases b:i<k
 ·simp [b,show ¬ i>=k by omega,show ¬ k=i by omega]
 ·by_cases e:i=k
  ·subst e
   have a:i<64:=TZ.lt ⟨m,rfl⟩ hx
   simp [a,Nat.testBit_zero]
  ·obtain ⟨d,hd⟩:∃ d,i-k=d+1:=⟨i-k-1,by omega⟩
   rw [iN b,hd,Nat.testBit_succ,Nat.testBit_succ,show (2*m+1)/2=m by omega,show 2*m/2=m by omega]
   simp only [show ¬ k=i by omega,decide_false]
   cases m.testBit d<;>simp
def Xe{o k:Nat}(h:o%2=1):Nat.Coprime (2^k) o:=Nat.Coprime.pow_left k (by unfold Nat.Coprime;rw [Nat.gcd_rec,h];rfl)
def B79{x y a b m:Nat}(hx:x=2^a*(2*m+1))(hy:TZ y b):cX x y=2^(min a b)*cX (2*m+1) y:=by
 obtain ⟨n,rfl⟩:=hy
 subst hx
 have c:cX (2*m+1) (2^b*(2*n+1))=cX (2*m+1) (2*n+1):=cN (2*n+1) (Xe (by omega))
 rw [c]
 by_cases h:a<=b
 ·obtain ⟨d,rfl⟩:∃ d,b=a+d:=⟨b-a,by omega⟩
  rw [aI h,Nat.pow_add,eE,Nat.gcd_mul_left,cN _ (Xe (by omega))]
 ·obtain ⟨d,rfl⟩:∃ d,a=b+d:=⟨a-b,by omega⟩
  rw [dM (by omega),Nat.pow_add,eE,Nat.gcd_mul_left,Nat.Coprime.gcd_mul_left_cancel _ (Xe (by omega))]
def A04(k:Nat):Nat:=(2^k*285870213051353865%18446744073709551616)/2^58
def Gtz(h:bJ):Prop:=∀ k,k<64->h.cell? (eC ⟨0,0,none⟩ (A04 k*1))=some (Y k)
def Gtz.mono{h h':bJ}(g:Gtz h)(l:h.le h'):Gtz h':=fun k a=>D4 l (g k a)
section
variable {h g:bJ} {K:VP} {A B:Option bN} {ac bc:Nat}
def Iq{x k:Nat}(gl:Gtz h)(tz:TZ x k)(hx:x<18446744073709551616)(hK:K (I k) h):aY prog I8 #[U x] h K:=by
 have b:=tz.lt (n:=64) hx
 have d:x≠0:=by
  obtain ⟨m,rfl⟩:=tz
  have:0<2^k:=cY (by decide)
  have:=Nat.mul_pos this (show 0<2*m+1 by omega)
  omega
 refine Jm _ ?_
 unfold Fd
 refine D9 (fun e=>by omega) (fun _=>?_)
 have a:B8 (0-(x:Int))=((2^64-x:Nat):Int):=by
  rw [D8];omega
 have g:Lk .u64 (x:Int) ((2^64-x:Nat):Int)=((2^k:Nat):Int):=by
  rw [B0g (by omega) (by omega),aC,aC,tz.bit hx]
 have c:dH (B8 (((2^k:Nat):Int)*285870213051353865)) (2^(min ((58:Int)).toNat 64))=((A04 k:Nat):Int):=by
  show dH _ (2^(min 58 64))=_
  rw [B2f (by decide),D8]
  unfold A04
  rw [dN,eR,bU]
  rfl
 rw [a,g,c,aC]
 have i:A04 k<64:=by
  unfold A04
  have:(2^k*285870213051353865)%18446744073709551616<18446744073709551616:=eF _ (by decide)
  exact Nat.div_lt_of_lt_mul (by omega)
 refine ⟨⟨by omega,by omega⟩,_,gl k b,?_⟩
 rw [B6 (by omega) (by omega)]
 exact hK
def A1e{x y:Nat}(gl:Gtz h)(hx:x<18446744073709551616)(hy:y<18446744073709551616)(hK:K (U (cX x y:Nat)) h):aY prog Nh #[U x,U y] h K:=by
 refine A48 _ _ ?_
 unfold A5r
 refine D9 (fun e=>?_) (fun e=>?_)
 ·obtain rfl:x=0:=by omega
  rw [A41 (by omega) (by omega)]
  simpa using hK
 refine D9 (fun E=>?_) (fun E=>?_)
 ·obtain rfl:y=0:=by omega
  rw [A41 (by omega) (by omega)]
  simpa using hK
 obtain ⟨a,j⟩:=TZ.ex (x:=x) (by omega)
 obtain ⟨b,p⟩:=TZ.ex (x:=y) (by omega)
 have Q:=j.lt (n:=64) hx
 have S:=p.lt (n:=64) hy
 rw [A41 (by omega) (by omega),aC,aC]
 have q:x ||| y<18446744073709551616:=Nat.or_lt_two_pow (n:=64) hx hy
 refine Iq gl (j.or p) q ⟨_,rfl,?_⟩
 refine Iq gl j hx ⟨_,rfl,?_⟩
 refine B4 (fun k=>by omega) (fun _=>?_)
 obtain ⟨m,o⟩:=j
 have L:=B79 o p
 have J:dH (x:Int) (2^(min ((a:Int)).toNat 64))=((2*m+1:Nat):Int):=by
  rw [aC,B2f (by omega),show ((2:Int)^a)=((2^a:Nat):Int) by simp,<- dN,o,fG _ (cY (by decide))]
 rw [J]
 have z:2*m+1<=x:=by
  rw [o];exact fK _ (cY (by decide))
 refine ⟨fun l C=>C=h/\∃ u v:Nat,l=[U u,U v]/\u%2=1/\u<18446744073709551616/\v<18446744073709551616/\cX u v=cX (2*m+1) y,fun l _=>(iAt l 0+iAt l 1).toNat,⟨rfl,2*m+1,y,rfl,by omega,by omega,hy,rfl⟩,?_⟩
 rintro R V G ⟨rfl,u,v,B,N,D,g,d⟩
 simp only [bO,dA,and_true,true_and] at B
 obtain ⟨rfl,rfl⟩:=B
 refine N8 (fun k=>?_) (fun k=>?_)
 ·obtain ⟨c,w⟩:=TZ.ex (x:=v) (by omega)
  have T:=w.lt (n:=64) g
  refine Iq gl w g ⟨_,rfl,?_⟩
  refine B4 (fun k=>by omega) (fun _=>?_)
  obtain ⟨n,s⟩:=w
  have M:dH (v:Int) (2^(min ((c:Int)).toNat 64))=((2*n+1:Nat):Int):=by
   rw [aC,B2f (by omega),show ((2:Int)^c)=((2^c:Nat):Int) by simp,<- dN,s,fG _ (cY (by decide))]
  have A:2*n+1<=v:=by
   rw [s];exact fK _ (cY (by decide))
  have i:cX u (2*n+1)=cX u v:=by
   rw [s,cN _ (Xe N)]
  rw [M]
  refine B4 (fun O=>?_) (fun O=>?_)
  ·have r:B8 ((u:Int)-((2*n+1:Nat):Int))=((u-(2*n+1):Nat):Int):=by rw [B9 (by omega) (by omega)];omega
   rw [r]
   refine ⟨⟨rfl,_,_,rfl,by omega,by omega,by omega,?_⟩,?_⟩
   ·rw [fL (by omega),fM,i,d]
   ·simp only [iAt,aH,aO];omega
  ·have r:B8 (((2*n+1:Nat):Int)-(u:Int))=((2*n+1-u:Nat):Int):=by rw [B9 (by omega) (by omega)];omega
   rw [r]
   refine ⟨⟨rfl,_,_,rfl,by omega,by omega,by omega,?_⟩,?_⟩
   ·rw [fL (by omega),i,d]
   ·simp only [iAt,aH,aO];omega
 ·refine B4 (fun k=>by omega) (fun _=>?_)
  obtain rfl:v=0:=by omega
  rw [Nat.gcd_zero_right] at d
  rw [aC,aI (show min a b<=64 by omega)]
  have F:(u:Int)*2^(min a b)=((cX x y:Nat):Int):=by
   rw [L,<- d,bU,aP];simp
  have H:cX x y<=x:=Nat.le_of_dvd (by omega) (Nat.gcd_dvd_left x y)
  rw [F,B9 (by omega) (by omega)]
  exact hK
end
def A8h{xs:List Int}(d:Dig b64 xs){k s:Nat}(hl:xs.length<=k+2)(hs:s<=64):val b64 xs/(b64^k*2^(64-s))=xs.getD (k+1) 0*2^s+xs.getD k 0/2^(64-s):=by
 have c:=C2 b64 xs (k+1)
 have i:=C2 b64 xs k
 rw [aM (show xs.length<=k+1+1 by omega)] at c
 have g:=D6 (B:=b64) (by decide) k
 have j:0<(2:Int)^(64-s):=bG (by decide)
 have b:=W5 (s:=s) hs
 have l:=C5 (by decide) (d.take k)
 have m:=I5 (by decide) (d.take k)
 have n:=D5 (B:=b64) (by decide) (show (xs.take k).length<=k by rw [aF];omega)
 rw [<- dP (aL g)]
 have e:val b64 xs/b64^k=xs.getD k 0+18446744073709551616*xs.getD (k+1) 0:=by
  refine (Yt (a:=val b64 (xs.take k)) ?_ l (by omega)).1
  rw [c,i,aZ]
  show _=val b64 (xs.take k)+_+b64^k*18446744073709551616*_
  grind
 rw [e,<- b,aP (2^s),cD,dY _ _ (by omega),aP (2^s)]
 omega
section
variable {h g:bJ} {K:VP} {A B:Option bN} {ac bc:Nat}
def B83(a b u0 u1 v0 v1:Int)(odd:Bool):Prop:=(0<=u0/\u0<18446744073709551616)/\(0<=u1/\u1<18446744073709551616)/\(0<=v0/\v0<18446744073709551616)/\(0<=v1/\v1<18446744073709551616)/\(v0≠0->Leh a b u0 v0 u1 v1 (Ix a b u0 v0 odd) (Iw a b u1 v1 odd))
def B34{a b F S W t20 t26 t33:Int}(hF:F=bor .u64 (B8 (t26*2^(min (B8 t20).toNat 64))) (dH t33 (2^(min (B8 ((64:Int)-(B8 t20))).toNat 64))))(hW:0<W)(hFa:F=a/W)(hSb:S=b/W)(hb0:0<=b)(hba:b<=a)(hF64:F<18446744073709551616)
 (hK:∀ u0 u1 v0 v1 odd,B83 a b u0 u1 v0 v1 odd->K (.agg #[U u0,U u1,U v0,U v1,.bool odd]) h):Gu prog K t20 t26 t33 S h:=by
 have da:=aK a W
 have db:=aK b W
 have u:=aR a (b:=W) (by omega)
 have s:=aJ a hW
 have w:=aR b (b:=W) (by omega)
 have z:=aJ b hW
 have x:0<=S:=by rw [hSb];exact bM hb0 (by omega)
 have y:S<=F:=by rw [hSb,hFa];exact Int.ediv_le_ediv hW hba
 unfold Gu
 rw [<- hF]
 refine ⟨fun l A=>A=h/\∃ (first c g d u0 u1 v0 v1:Int) (odd:Bool),l=[U first,U c,U g,U d,U u0,U u1,U v0,U v1,.bool odd]/\LS F S first c u0 v0 u1 v1 g d odd/\B83 a b u0 u1 v0 v1 odd/\g<=F/\d<=(if F=0 then 1 else F),fun l _=>(iAt l 1).toNat,⟨rfl,_,_,_,_,_,_,_,_,_,rfl,LS.init x y,⟨by omega,by omega,by omega,by omega,fun e=>absurd rfl e⟩,by omega,by split<;>omega⟩,?_⟩
 rintro first c g d u0 u1 v0 v1 odd A ⟨rfl,r,m,N,O,Q,aa,R,J,C,D,p,q,L,M⟩
 simp only [bO,dA,Value.bool.injEq,and_true,true_and] at D
 obtain ⟨rfl,rfl,rfl,rfl,rfl,rfl,rfl,rfl,rfl⟩:=D
 have B:=p.v2pos
 have k:=p.ord
 have T:=p.hF
 refine B4 (fun h1=>?_) (fun _=>hK _ _ _ _ _ q)
 have j:1<=c:=by omega
 have V:=p.bound2 j
 have G:first<=F:=by
  have t1:1*first<=d*first:=aD (by omega) (by omega)
  have t2:=aQ (show 0<=v1 by omega) k.1
  omega
 rw [B9 (n:=first-c) (by omega) (by omega),B9 (n:=v1+d) (by omega) (by omega)]
 refine B4 (fun h2=>?_) (fun _=>hK _ _ _ _ _ q)
 refine B4 (fun e=>by omega) (fun _=>?_)
 refine B4 (fun e=>by omega) (fun _=>?_)
 rw [bW (by omega),bB (by omega)]
 have i:=p.step (by omega) (by omega)
 have E:=i.bound j
 have o:0<=first/c:=bM (by omega) (by omega)
 have X:first/c<=first:=dO _ (by omega)
 have H:=aQ o (show 0<=g by omega)
 have Z:=aQ o (show 0<=d by omega)
 rw [B9 (n:=first/c) (by omega) (by omega),B9 (n:=first/c*g) (by omega) (by omega),B9 (n:=first/c*d) (by omega) (by omega),B9 (n:=u1+first/c*g) (by omega) (by omega),B9 (n:=v1+first/c*d) (by omega) (by omega)]
 refine ⟨⟨rfl,_,_,_,_,_,_,_,_,_,rfl,i,⟨⟨by omega,q.2.1.2⟩,⟨by omega,by omega⟩,⟨by omega,q.2.2.2.1.2⟩,⟨by omega,by omega⟩,fun e=>i.leh e hW (al:=a%W) (bl:=b%W) ?_ ?_ ⟨u,s⟩ ⟨w,z⟩⟩,by omega,by split<;>omega⟩,?_⟩
 ·rw [hFa,aP];omega
 ·rw [hSb,aP];omega
 ·have:=aJ first (show 0<c by omega)
  have:=aR first (show c≠0 by omega)
  simp only [iAt,aO,aH];omega
set_option maxHeartbeats 1000000 in
def Xk{a b:Int}{an bn:Nat}(ma:Mw h A an a)(mb:Mw h B bn b)(hba:b<=a)(hb2:2<=bn)(hl:an<=1000000000)
 (hK:∀ u0 u1 v0 v1 odd,B83 a b u0 u1 v0 v1 odd->K (.agg #[U u0,U u1,U v0,U v1,.bool odd]) h):aY prog Jd #[.slice A an ac,.slice B bn bc] h K:=by
 have T:=mb.nonneg (by decide)
 have ad:bn<=an:=mb.len_le (by decide) (cJ hba (ma.lt (by decide)))
 obtain ⟨k,rfl⟩:∃ k,an=k+2:=⟨an-2,by omega⟩
 obtain ⟨C,i,Q,D,nx,rfl⟩:=ma
 obtain ⟨g,r,V,J,ny,rfl⟩:=mb
 refine A1u _ _ _ _ _ _ ?_
 unfold A1v
 have e1:B5 (((k+2:Nat):Int)-1)=((k+1:Nat):Int):=by rw [B6 (by omega) (by omega)];omega
 have e2:B5 (((k+2:Nat):Int)-2)=(k:Int):=by rw [B6 (by omega) (by omega)];omega
 simp only [e1,e2]
 have gt:=L6 D (k+1)
 have L:=L6 D k
 have S:=A08 (m:=k+1) i.symm nx
 obtain ⟨t,ht⟩:∃ t:Nat,C.getD (k+1) 0=t:=⟨(C.getD (k+1) 0).toNat,by omega⟩
 rw [i]
 refine Q.load rfl (by omega) (by omega) ?_
 rw [aC,ht]
 rw [ht] at gt S
 refine O0 (by omega) ⟨_,rfl,?_⟩
 obtain ⟨s,hs⟩:∃ s,s=64-I9 t:=⟨_,rfl⟩
 rw [<- hs]
 obtain ⟨Z,q,ab⟩:=Vk D i.symm ht (by omega) hs
 refine Q.load rfl (by omega) (by omega) ?_
 simp only [aC,ht]
 have j:B8 (s:Int)=s:=B9 (by omega) (by omega)
 have c:B8 (64-(s:Int))=((64-s:Nat):Int):=by rw [B9 (by omega) (by omega)];omega
 refine B4 (fun e=>by rw [j] at e;omega) (fun _=>?_)
 refine Q.load rfl (by omega) (by omega) ?_
 simp only [aC]
 refine B4 (fun e=>by rw [j,c] at e;omega) (fun _=>?_)
 have O:0<(2:Int)^s:=bG (by decide)
 have x:0<(2:Int)^(64-s):=bG (by decide)
 have y:=W5 (s:=s) (by omega)
 have W:=D6 (B:=b64) (by decide) k
 have M:0<b64^k*2^(64-s):=Int.mul_pos W x
 have o:=A8h D (k:=k) (s:=s) (by omega) (by omega)
 have d:=A8h J (k:=k) (s:=s) (by omega) (by omega)
 have n:val b64 C/(b64^k*2^(64-s))<18446744073709551616:=by
  apply bC M
  have G:18446744073709551616*(b64^k*2^(64-s))*2^s=18446744073709551616*b64^k*(2^s*2^(64-s)):=by grind
  rw [y] at G
  have R:b64^(k+1+1)=18446744073709551616*b64^k*18446744073709551616:=by
   rw [aZ,aZ]
   show b64^k*18446744073709551616*18446744073709551616=_
   grind
  rw [R,<- G] at q
  exact Int.lt_of_mul_lt_mul_right q (by omega)
 have ae:val b64 g/(b64^k*2^(64-s))<=val b64 C/(b64^k*2^(64-s)):=Int.ediv_le_ediv M hba
 have q1:∀ z:Int,0<=z/\z<18446744073709551616->0<=z/2^(64-s)/\z/2^(64-s)<2^s:=fun z E=>
  ⟨bM E.1 (by omega),bC x (by rw [y];exact E.2)⟩
 have w:∀ u z:Int,0<=u->0<=z/\z<18446744073709551616->u*2^s+z/2^(64-s)<18446744073709551616->bor .u64 (B8 (u*2^(min (B8 (s:Int)).toNat 64))) (dH z (2^(min (B8 (64-B8 (s:Int))).toNat 64)))=u*2^s+z/2^(64-s):=by
  intro u z hu E X
  have:=q1 z E
  have:=aQ hu (aL O)
  rw [j,c,aC,aC,B2f (by omega),aI (show s<=64 by omega),B9 (by omega) (by omega),A1m hu (by omega) X]
 have gy:=L6 J (k+1)
 have N:=L6 J k
 rw [ht] at o
 refine ⟨fun l hp=>hp=h/\l=[U (val b64 g/(b64^k*2^(64-s)))],?_,?_⟩
 ·refine D9 (fun e=>?_) (fun e=>?_)
  ·rw [r]
   refine V.load rfl (by omega) (by omega) ?_
   simp only [aC]
   refine B4 (fun e=>by rw [j] at e;omega) (fun _=>?_)
   refine V.load rfl (by omega) (by omega) ?_
   simp only [aC]
   refine B4 (fun e=>by rw [j,c] at e;omega) (fun _=>?_)
   rw [w _ _ gy.1 N (by omega),d]
   first|exact ⟨rfl,rfl⟩|exact ⟨trivial,rfl⟩
  ·refine D9 (fun e=>?_) (fun e=>?_)
   ·rw [r]
    refine V.load rfl (by omega) (by omega) ?_
    simp only [aC]
    refine B4 (fun e=>by rw [j,c] at e;omega) (fun _=>?_)
    have:g.getD (k+1) 0=0:=by simp [cK,bZ (show g.length<=k+1 by omega)]
    rw [this,dQ,cO] at d
    rw [j,c,aC,B2f (by omega),d]
    first|exact ⟨rfl,rfl⟩|exact ⟨trivial,rfl⟩
   ·have G:g.getD (k+1) 0=0:=by simp [cK,bZ (show g.length<=k+1 by omega)]
    have R:g.getD k 0=0:=by simp [cK,bZ (show g.length<=k by omega)]
    rw [G,R,dQ,cO,Int.zero_ediv] at d
    rw [d]
    exact ⟨rfl,rfl⟩
 ·rintro H aa ⟨rfl,p⟩
  simp only [bO,dA,and_true,true_and] at p
  subst p
  exact B34 (F:=val b64 C/(b64^k*2^(64-s))) (by rw [w _ _ (by omega) L (by omega),o]) M rfl rfl T hba n hK
end
def Win.swap{k k':cV}{h g1 g:bJ}{ba bb:Nat}{e e':cH}{A B:Option bN}{pa qa pb qb:List dZ}{us bs:List Int}(wa:Win k h g1 ba e A pa us qa)(wb:Win k' g1 g bb e' B pb bs qb):∃ g2,Win k' h g2 bb e' B pb bs qb/\Win k g2 g ba e A pa us qa:=by
 have a:ba≠bb:=by
  rintro rfl
  have:=wa.free
  rw [wb.eq,C4] at this
  cases this
 have b:g ba=none:=by
  have:=wa.free
  rwa [wb.eq,B7 _ _ a] at this
 refine ⟨g.put ba (.cells (pa++us.map (bH k)++qa).toArray e),⟨?_,?_,wb.at_⟩,⟨b,rfl,wa.at_⟩⟩
 ·rw [B7 _ _ a.symm];exact wb.free
 ·rw [wa.eq,wb.eq];exact Heap.put_comm _ _ _ a.symm
def Xi{z y c:Int}(hz:0<=z/\z<18446744073709551616)(hy:0<=y/\y<18446744073709551616)(hc:0<=c/\c<=1):(z-y-c)%18446744073709551616=z-y-c+18446744073709551616*(if z-y-c<0 then 1 else 0):=by
 split<;>omega
def A12(z:Int):z%18446744073709551616=z-18446744073709551616*(z/18446744073709551616):=by omega
def Ki{x y c:Int}(hx:0<=x/\x<18446744073709551616)(hy:0<=y/\y<18446744073709551616)(hc:0<=c/\c<18446744073709551616):0<=(x*y+c)/18446744073709551616/\(x*y+c)/18446744073709551616<18446744073709551616:=by
 have b:=aQ hx.1 hy.1
 have a:x*y<=18446744073709551615*y:=aD (by omega) hy.1
 omega
def pin{v w B m:Int}(h:v=w+B*m)(hv:0<=v/\v<B)(hw:0<=w/\w<B):v=w:=by
 have a:0<B:=by omega
 by_cases c:m <= -1
 ·have:=aG c (aL a);omega
 ·by_cases b:1<=m
  ·have:=aG b (aL a);omega
  ·obtain rfl:m=0:=by omega
   omega
section
variable {h g g1:bJ} {K:VP} {A B:Option bN} {ac bc an bn ba bb:Nat} {e:cH} {qa qb:List dZ}
set_option maxHeartbeats 1000000 in
def A6x{us bs:List Int}{u0 u1 v0 v1:Int}{odd:Bool}(wa:Win .u64 h g1 ba e A [] us qa)(wb:Win .u64 g1 g bb e B [] bs qb)(ha:an=us.length)(hb:bn=bs.length)(hab:us.length=bs.length)(da:Dig b64 us)(db:Dig b64 bs)(hl:us.length<=1000000000)(hu0:0<=u0/\u0<18446744073709551616)(hu1:0<=u1/\u1<18446744073709551616)(hv0:0<=v0/\v0<18446744073709551616)(hv1:0<=v1/\v1<18446744073709551616)
 (hX0:0<=Ix (val b64 us) (val b64 bs) u0 v0 odd/\Ix (val b64 us) (val b64 bs) u0 v0 odd<b64^us.length) (hX1:0<=Iw (val b64 us) (val b64 bs) u1 v1 odd/\Iw (val b64 us) (val b64 bs) u1 v1 odd<b64^us.length)
 (hK:∀ us' bs' h' g1',us'.length=us.length->bs'.length=us.length->Dig b64 us'->Dig b64 bs'->val b64 us'=Ix (val b64 us) (val b64 bs) u0 v0 odd->val b64 bs'=Iw (val b64 us) (val b64 bs) u1 v1 odd->Win .u64 h' g1' ba e A [] us' qa->Win .u64 g1' g bb e B [] bs' qb->K (.tuple #[]) h'):
 aY prog Ya #[.agg #[U u0,U u1,U v0,U v1,.bool odd],.slice A an ac,.slice B bn bc] h K:=by
 subst ha hb
 refine B0v _ _ _ _ _ _ _ _ _ _ _ ?_
 unfold B5p
 refine ⟨fun l hp=>∃ (k:Nat) (b d j c R S:Int) (E u:List Int) (g1:bJ),l=[U b,U d,U j,U c,U R,U S,I k]/\k<=us.length/\E.length=us.length/\u.length=us.length/\Dig b64 E/\Dig b64 u/\(0<=b/\b<18446744073709551616)/\(0<=d/\d<18446744073709551616)/\(0<=j/\j<18446744073709551616)/\(0<=c/\c<18446744073709551616)/\(0<=R/\R<=1)/\(0<=S/\S<=1)/\Win .u64 hp g1 ba e A [] E qa/\Win .u64 g1 g bb e B [] u qb/\E.drop k=us.drop k/\u.drop k=bs.drop k/\
  val b64 (E.take k)=Ix (val b64 (us.take k)) (val b64 (bs.take k)) u0 v0 odd+b64^k*((if odd then d-b else b-d)+R)/\val b64 (u.take k)=Iw (val b64 (us.take k)) (val b64 (bs.take k)) u1 v1 odd+b64^k*((if odd then c-j else j-c)+S),fun l _=>us.length-(iAt l 6).toNat,⟨0,0,0,0,0,0,0,us,bs,g1,rfl,by omega,rfl,hab.symm,da,db,by omega,by omega,by omega,by omega,by omega,by omega,wa,wb,rfl,rfl,by simp [val,Ix],by simp [val,Iw]⟩,?_⟩
 rintro b d j c R S i hp ⟨k,ah,ab,ag,ai,ad,af,E,u,g1,T,hk,a,s,N,O,hP,hQ,hR,hT,C,o,Q,W,J,M,m,n⟩
 simp only [bO,dA,and_true,true_and] at T
 obtain ⟨rfl,rfl,rfl,rfl,rfl,rfl,rfl⟩:=T
 refine B4 (fun h1=>?_) (fun h1=>?_)
 ·have gx:=L6 N k
  have gy:=L6 O k
  have w:=E2 J
  have z:=E2 M
  have vx:=C2 b64 us k
  have vy:=C2 b64 bs k
  obtain ⟨g2,aa,ae⟩:=Q.swap W
  refine Q.sl.load a.symm (by omega) (by omega) ?_
  refine aa.sl.load (by omega) (by omega) (by omega) ?_
  simp only [aC]
  obtain ⟨aA,X,_⟩:=SlV.at Q.sl (i:=k) (by simp;omega)
  obtain ⟨aB,hB,_⟩:=SlV.at W.sl (i:=k) (by simp;omega)
  generalize hx0:E.getD k 0=x at *
  generalize hy0:u.getD k 0=y at *
  refine O9 gx hu0 hP ⟨_,_,rfl,?_⟩
  refine O9 gy hv0 hQ ⟨_,_,rfl,?_⟩
  refine O9 gy hv1 hR ⟨_,_,rfl,?_⟩
  refine O9 gx hu1 hT ⟨_,_,rfl,?_⟩
  have bP:=Ki gx hu0 hP
  have bQ:=Ki gy hv0 hQ
  have bR:=Ki gy hv1 hR
  have bT:=Ki gx hu1 hT
  have mP:=Dw (x*u0+b)
  have mQ:=Dw (y*v0+d)
  have mR:=Dw (y*v1+j)
  have Z:=Dw (x*u1+c)
  have kP:=A12 (x*u0+b)
  have kQ:=A12 (y*v0+d)
  have kR:=A12 (y*v1+j)
  have kT:=A12 (x*u1+c)
  have ek:B5 ((k:Int)+1)=((k+1:Nat):Int):=by rw [B6 (by omega) (by omega)];omega
  rw [ek]
  generalize (x*u0+b)/18446744073709551616=cP2 at *
  generalize (y*v0+d)/18446744073709551616=cQ2 at *
  generalize (y*v1+j)/18446744073709551616=cR2 at *
  generalize (x*u1+c)/18446744073709551616=cT2 at *
  generalize (x*u0+b)%18446744073709551616=p at *
  generalize (y*v0+d)%18446744073709551616=q at *
  generalize (y*v1+j)%18446744073709551616=r at *
  generalize (x*u1+c)%18446744073709551616=t at *
  have D:b64^(k+1)=b64^k*18446744073709551616:=aZ _ _
  cases odd with
  | true=>
   refine Br.of (fun _=>?_) (fun e=>by cases e)
   refine Dr mP mQ C ⟨_,_,rfl,aA,X,by omega,by omega,Q.storeN F0 X (by omega) ?_⟩
   intro h2 w2
   refine Dr mR Z o ⟨_,_,rfl,aB,hB,by omega,by omega,?_⟩
   obtain ⟨g3,H,F⟩:=w2.swap W
   refine H.storeN F0 hB (by omega) ?_
   intro h4 w4
   obtain ⟨g5,L,G⟩:=w4.swap F
   refine ⟨⟨k+1,_,_,_,_,_,_,_,_,g5,rfl,by omega,by simpa using a,by simpa using s,N.set (Dw _),O.set (Dw _),bP,bQ,bR,bT,by split<;>omega,by split<;>omega,L,G,?_,?_,?_,?_⟩,by simp only [iAt,aH,aO];omega⟩
   ·rw [D3 (by omega)];exact D7 J
   ·rw [D3 (by omega)];exact D7 M
   ·rw [C6 (by omega),E5,aF,aI (by omega),D,vx,vy,<- w,<- z,m,Xi mP mQ C]
    simp only [Ix,if_true]
    grind
   ·rw [C6 (by omega),E5,aF,aI (by omega),D,vx,vy,<- w,<- z,n,Xi mR Z o]
    simp only [Iw,if_true]
    grind
  | false=>
   refine Br.of (fun e=>by cases e) (fun _=>?_)
   refine Dr mQ mP C ⟨_,_,rfl,aA,X,by omega,by omega,Q.storeN F0 X (by omega) ?_⟩
   intro h2 w2
   refine Dr Z mR o ⟨_,_,rfl,aB,hB,by omega,by omega,?_⟩
   obtain ⟨g3,H,F⟩:=w2.swap W
   refine H.storeN F0 hB (by omega) ?_
   intro h4 w4
   obtain ⟨g5,L,G⟩:=w4.swap F
   refine ⟨⟨k+1,_,_,_,_,_,_,_,_,g5,rfl,by omega,by simpa using a,by simpa using s,N.set (Dw _),O.set (Dw _),bP,bQ,bR,bT,by split<;>omega,by split<;>omega,L,G,?_,?_,?_,?_⟩,by simp only [iAt,aH,aO];omega⟩
   ·rw [D3 (by omega)];exact D7 J
   ·rw [D3 (by omega)];exact D7 M
   ·rw [C6 (by omega),E5,aF,aI (by omega),D,vx,vy,<- w,<- z,m,Xi mQ mP C]
    simp only [Ix,Bool.false_eq_true,if_false]
    grind
   ·rw [C6 (by omega),E5,aF,aI (by omega),D,vx,vy,<- w,<- z,n,Xi Z mR o]
    simp only [Iw,Bool.false_eq_true,if_false]
    grind
 ·obtain rfl:k=us.length:=by omega
  rw [aM (show E.length<=us.length by omega),aV,aM (show bs.length<=us.length by omega)] at m
  rw [aM (show u.length<=us.length by omega),aV,aM (show bs.length<=us.length by omega)] at n
  have bx:=I5 (by decide) N
  have V:=I5 (by decide) O
  rw [a] at bx
  rw [s] at V
  exact hK E u hp g1 a s N O (pin m ⟨C5 (by decide) N,bx⟩ hX0) (pin n ⟨C5 (by decide) O,V⟩ hX1) Q W
end
def Win.priv{k:cV}{h g:bJ}{b m c:Nat}{e:cH}{A:Option bN}{xs:List Int}{post:List dZ}(w:Win k h g b e A [] xs post)(hx:xs≠[])(hc:c=xs.length+post.length)(hm:m<=xs.length):Priv h g e 1 A m c ((xs.take m).map (bH k)):=by
 refine ⟨by simp;omega,by omega,.inr ⟨b,xs.map (bH k)++post,?_,w.free,?_,by simp;omega,?_⟩⟩
 ·rcases w.at_ with a|a
  ·exact absurd a hx
  ·simpa using a
 ·have:=w.eq
  rwa [cA] at this
 ·rw [eA,eS (by simp;omega),List.map_take]
def Mc{k:cV}{h g:bJ}{n c:Nat}{e:cH}{A:Option bN}{xs:List Int}(p:Priv h g e 1 A n c (xs.map (bH k)))(hx:xs≠[]):∃ b post,Win k h g b e A [] xs post/\c=xs.length+post.length:=by
 obtain ⟨j,r,m⟩:=p
 rw [dV] at j
 rcases m with ⟨o,rfl⟩|⟨b,a,d,l,rfl,q,i⟩
 ·exact absurd (aU (by omega)) hx
 ·refine ⟨b,a.drop (n*1),⟨l,?_,.inr d⟩,?_⟩
  ·rw [cA,<- i,cW]
  ·rw [aS];omega
def Priv.swap{h g1 g:bJ}{e e':cH}{s s' n c m d:Nat}{A B:Option bN}{xs ys:List dZ}(pa:Priv h g1 e s A n c xs)(pb:Priv g1 g e' s' B m d ys):∃ g2,Priv h g2 e' s' B m d ys/\Priv g2 g e s A n c xs:=by
 obtain ⟨r,o,z⟩:=pa
 obtain ⟨q,l,x⟩:=pb
 rcases z with ⟨E,rfl⟩|⟨j,i,u,a,rfl,y⟩
 ·exact ⟨g,⟨q,l,x⟩,⟨r,o,.inl ⟨E,rfl⟩⟩⟩
 ·rcases x with ⟨D,rfl⟩|⟨w,p,C,k,rfl,F⟩
  ·exact ⟨_,⟨q,l,.inl ⟨D,rfl⟩⟩,⟨r,o,.inr ⟨j,i,u,a,rfl,y⟩⟩⟩
  ·have b:j≠w:=by
    rintro rfl
    rw [C4] at a;cases a
   rw [B7 _ _ b] at a
   refine ⟨g.put j (.cells i.toArray e),⟨q,l,.inr ⟨w,p,C,?_,Heap.put_comm _ _ _ b.symm,F⟩⟩,⟨r,o,.inr ⟨j,i,u,a,rfl,y⟩⟩⟩
   rw [B7 _ _ b.symm];exact k
abbrev Pw(h g:bJ)(A:Option bN)(n c:Nat)(us:List Int):Prop:=Priv h g C0 1 A n c (us.map (bH .u64))
def GI(h:bJ)(G:Nat)(hp:bJ)(A:Option bN)(n c:Nat)(B:Option bN)(m d:Nat):Prop:=∃ (us vs:List Int) (g1 g:bJ),h.le g/\Pw hp g1 A n c us/\Pw g1 g B m d vs/\Dig b64 us/\Dig b64 vs/\Norm us/\Norm vs/\n=us.length/\m=vs.length/\val b64 vs<=val b64 us/\eK (val b64 us) (val b64 vs)=G/\us.length<=100000000
def A9n{a b:Int}(ha:0<=a)(hb:0<=b):eK b (a%b)=eK a b:=by
 obtain ⟨x,rfl⟩:=cR ha
 obtain ⟨y,rfl⟩:=cR hb
 rw [<- eR,cQ,cQ,fM x,fM y,<- Nat.gcd_rec]
section
variable {h g:bJ} {K:VP} {A B:Option bN} {ac bc:Nat}
set_option maxHeartbeats 1000000 in
def B3k{G an bn:Nat}{hp:bJ}(gl:Gtz h)(gi:GI h G hp A an ac B bn bc)(hK:∀ A' m c' h',h.le h'->m<=c'->Mw h' A' m (G:Int)->K (.slice A' m c') h'):Jk prog K A an ac B bn bc hp:=by
 unfold Jk
 refine ⟨fun l hp=>∃ (A B:Option bN) (n c m d:Nat),l=[.slice A n c,.slice B m d]/\GI h G hp A n c B m d,fun l hp=>match l with|[_,.slice B n _]=>A9a b64 hp B n|_=>0,⟨_,_,_,_,_,_,rfl,gi⟩,?_⟩
 rintro A1 W c1 B1 m1 d1 hp ⟨A,B,n,c,m,d,hl,p,o,g1,g,lg,J,T,du,dv,nu,nv,hn,V,Q,a,bh⟩
 simp only [bO,cL,and_true] at hl
 obtain ⟨⟨rfl,rfl,rfl⟩,rfl,rfl,rfl⟩:=hl
 have Ma:Mw hp A1 W (val b64 p):=⟨p,hn,J.slV,du,nu,rfl⟩
 have Mb:Mw hp B1 m1 (val b64 o):=⟨o,V,SlV.mono J.le T.slV,dv,nv,rfl⟩
 have aa:=J.2.1
 have ar:=T.2.1
 have R:=C5 (by decide) du
 have aq:=C5 (by decide) dv
 have av:m1<=W:=Mb.len_le (by decide) (cJ Q (Ma.lt (by decide)))
 have F:h.le hp:=A0 lg (A0 T.le J.le)
 have aw:=Mb.len_zero (by decide)
 refine B4 (fun h1=>?_) (fun h1=>?_)
 ·refine Xk Ma Mb Q (by omega) (by omega) ?_
  intro u0 u1 v0 v1 bj st
  refine ⟨_,_,_,_,_,rfl,D9 (fun e=>?_) (fun e=>?_)⟩
  ·refine Y7 Ma Mb aa ar (by omega) (by omega) (by omega) ?_
   intro A2 m2 c2 A3 m3 c3 h6 l6 q k3 M2 M3
   refine ⟨_,_,_,_,_,_,rfl,?_⟩
   have bi:m3<=m1:=M3.len_le (by decide) (by have:=aJ (val b64 p) (show 0<val b64 o by omega);have:=Mb.lt (by decide);omega)
   obtain ⟨ws,a5,ax,O,al,ay⟩:=M3
   refine Dg ax a5 (by omega) ?_
   intro A4 c4 h7 g7 l7 p7
   obtain ⟨g2,C,L⟩:=J.swap T
   obtain ⟨g8,l8,a9⟩:=C.after (A0 l6 l7)
   obtain ⟨g9,a2,a1⟩:=Priv.swap p7 a9
   have bq:=aJ (val b64 p) (show 0<val b64 o by omega)
   have Mn:Mw h7 A4 ws.length (val b64 ws):=⟨ws,rfl,p7.slV,O,al,rfl⟩
   refine ⟨_,_,_,rfl,⟨_,_,_,_,_,_,rfl,o,ws,g9,g8,A0 lg (A0 L.le l8),a2,a1,dv,O,nv,al,V,rfl,by omega,?_,by omega⟩,?_⟩
   ·rw [ay,A9n R aq];exact a
   ·simp only [Y3 Mn,Y3 Mb]
    have:=C5 (by decide) O
    omega
  ·obtain ⟨aj,ae,ak,ag,lh⟩:=st
   have lh:=lh e
   unfold Pa
   obtain ⟨g2,C,L⟩:=J.swap T
   refine ⟨fun l hp=>∃ (B:Option bN) (m d j:Nat) (g1 g:bJ),l=[.slice B m d]/\h.le g/\Pw hp g1 B m d (o++aE j 0)/\Pw g1 g A1 W c1 p/\m=o.length+j/\m<=W,fun l _=>match l with|[.slice _ m _]=>W-m|_=>0,⟨B1,m1,d1,0,g2,g,rfl,lg,by simpa using C,L,by omega,av⟩,?_⟩
   rintro B2 m2 d2 bm ⟨B',m',d',j,g3,g4,ad,ah,ap,af,br,bg⟩
   simp only [bO,cL,and_true] at ad
   obtain ⟨rfl,rfl,rfl⟩:=ad
   refine B4 (fun h2=>?_) (fun h2=>?_)
   ·refine Ft O8 ap rfl rfl (by omega) (by omega) ?_
    intro A5 c5 h5 g5 l5 p5
    obtain ⟨g6,l6,a6⟩:=af.after l5
    refine ⟨⟨A5,m2+1,c5,j+1,g5,g6,rfl,A0 ah l6,?_,a6,by omega,by omega⟩,by simp only;omega⟩
    have p6:=p5
    rw [<- List.map_singleton (f:=bH .u64),<- dB,bF,<- List.replicate_succ'] at p6
    exact p6
   ·obtain ⟨g5,a0,a7⟩:=ap.swap af
    have s:(o++aE j (0:Int)).length=p.length:=by simp;omega
    have i:p≠[]:=by rintro rfl;simp at hn;omega
    have X:o++aE j (0:Int)≠[]:=by intro h0;rw [h0] at s;simp at s;exact i (aU s.symm)
    obtain ⟨ba,qa,wa,bk⟩:=Mc a0 i
    obtain ⟨bb,qb,wb,bo⟩:=Mc a7 X
    have a8:=lh.gcd
    have bf:=lh.ord
    have az:=lh.le
    have be:val b64 o<b64^p.length:=by rw [<- hn];exact cJ Q (Ma.lt (by decide))
    refine A6x wa wb hn (by omega) s.symm du (dv.append (G4 (by decide) _)) (by omega) aj ae ak ag (by rw [Bm];omega) (by rw [Bm];omega) ?_
    intro x k h6 g6 z y a3 Z H u S ab
    rw [Bm] at H u
    have E:x≠[]:=by rintro rfl;simp at z;exact i (aU z.symm)
    have D:k≠[]:=by rintro rfl;simp at y;exact i (aU y.symm)
    refine ⟨rfl,?_⟩
    rw [show W=x.length by omega]
    refine Cp S.sl (by omega) (by omega) ?_
    intro k1 bd a4 am
    refine ⟨_,_,_,rfl,?_⟩
    rw [show m2=k.length by omega]
    refine Cp (SlV.mono S.le ab.sl) (by omega) (by omega) ?_
    intro q au ai N
    have pA:=S.priv (m:=k1) (c:=c1) E (by omega) bd
    have pB:=ab.priv (m:=q) (c:=d2) D (by omega) au
    have e1:(x.take k1).length=k1:=by rw [aF];omega
    have e2:(k.take q).length=q:=by rw [aF];omega
    have Mn:Mw h6 B2 q (val b64 (k.take q)):=⟨k.take q,e2.symm,SlV.mono pA.le pB.slV,Z.take _,ai,rfl⟩
    refine ⟨_,_,_,rfl,⟨_,_,_,_,_,_,rfl,x.take k1,k.take q,_,_,ah,pA,pB,a3.take _,Z.take _,a4,ai,e1.symm,e2.symm,?_,?_,by omega⟩,?_⟩
    ·rw [am,N,H,u];omega
    ·rw [am,N,H,u,a8];exact a
    ·simp only [Y3 Mn,Y3 Mb]
     rw [N,u];omega
 ·refine D9 (fun h2=>?_) (fun h2=>?_)
  ·have h0:val b64 o=0:=aw.2 (by omega)
   rw [h0,Int.gcd_zero_right] at a
   refine hK _ _ _ _ F aa ?_
   rw [<- a,Int.natAbs_of_nonneg R];exact Ma
  ·have bl:m1=1:=by omega
   obtain ⟨w,rfl⟩:∃ w,o=[w]:=by
    rcases o with _|⟨w,_|⟨w',r⟩⟩
    ·simp at V;omega
    ·exact ⟨w,rfl⟩
    ·simp at V;omega
   have hw:=dv w (by simp)
   rw [S9] at *
   obtain ⟨t,rfl⟩:∃ t:Nat,w=(t:Int):=cR hw.1
   have bp:(t:Int)<18446744073709551616:=hw.2
   have ao:0<t:=by omega
   have sb:SlI .u64 hp B1 [(t:Int)]:=SlV.mono J.le T.slV
   refine sb.load V (by omega) (by omega) ?_
   refine sb.load V (by omega) (by omega) ?_
   show aY _ _ #[_,U ((t:Nat):Int)] _ _
   refine Kc Ma ⟨ao,by omega⟩ (by omega) ⟨_,rfl,B3 _,?_⟩
   have r0:=aR (val b64 p) (b:=(t:Int)) (by omega)
   have r1:=aJ (val b64 p) (show (0:Int)<(t:Int) by omega)
   have M:=A9n R (show (0:Int)<=(t:Int) by omega)
   obtain ⟨r,hr⟩:=cR r0
   rw [hr] at r1 M ⊢
   show aY _ _ #[U ((t:Nat):Int),_] _ _
   refine A1e (gl.mono F) (by omega) (by omega) ⟨_,rfl,B3 _,?_⟩
   rw [cQ] at M
   have az:cX t r<=t:=Nat.le_of_dvd ao (Nat.gcd_dvd_left t r)
   refine Ac (by omega) ?_
   intro A2 m2 c2 h2 l2 q M2
   rw [M,a] at M2
   exact ⟨_,_,_,rfl,l2,hK _ _ _ _ (A0 F l2) q M2⟩
def Xy{x y:Int}{an bn:Nat}(gl:Gtz h)(ma:Mw h A an x)(mb:Mw h B bn y)(ha:an<=ac)(hb:bn<=bc)(hl:an<=100000000)(hl2:bn<=100000000)(hK:∀ A' m c' h',h.le h'->m<=c'->Mw h' A' m (eK x y:Int)->K (.slice A' m c') h'):aY prog Jf #[.slice A an ac,.slice B bn bc] h K:=by
 refine A1y _ _ _ _ _ _ ?_
 unfold A1z
 refine ⟨fun l q=>q=h/\∃ (A B:Option bN) (n c m d:Nat) (g e:Int),l=[.slice A n c,.slice B m d]/\Mw h A n g/\Mw h B m e/\e<=g/\n<=c/\m<=d/\n<=100000000/\m<=100000000/\eK g e=eK x y,?_,?_⟩
 ·refine G8 ma mb (by omega) ⟨_,rfl,B4 (fun a=>?_) (fun a=>?_)⟩
  ·rw [Cc] at a
   exact ⟨rfl,_,_,_,_,_,_,_,_,rfl,mb,ma,by omega,hb,ha,hl2,hl,Int.gcd_comm _ _⟩
  ·rw [Cc] at a
   exact ⟨rfl,_,_,_,_,_,_,_,_,rfl,ma,mb,by omega,ha,hb,hl,hl2,rfl⟩
 ·rintro A1 S c1 B1 m1 d1 q ⟨rfl,A2,B2,n,c,m,d,g,e,b,M1,M2,j,G,W,V,l2,p⟩
  simp only [bO,cL,and_true] at b
  obtain ⟨⟨rfl,rfl,rfl⟩,rfl,rfl,rfl⟩:=b
  have o:=M1.nonneg (by decide)
  refine D9 (fun a=>?_) (fun a=>?_)
  ·have:e=0:=(M2.len_zero (by decide)).2 (by omega)
   subst this
   rw [Int.gcd_zero_right] at p
   refine hK _ _ _ _ (B3 _) G ?_
   rw [<- p,Int.natAbs_of_nonneg o];exact M1
  ·obtain ⟨u,i,z,O,R,rfl⟩:=M1
   obtain ⟨M,k,J,H,nv,rfl⟩:=M2
   refine Dg z i (by omega) ?_
   intro A3 c3 h3 T r s
   refine ⟨_,_,_,rfl,?_⟩
   refine Dg (SlV.mono (A0 r s.le) J) k (by omega) ?_
   intro A4 X Z g4 N C
   refine ⟨_,_,_,rfl,?_⟩
   obtain ⟨F,E,Q⟩:=s.after N
   obtain ⟨L,D,w⟩:=Priv.swap C Q
   exact B3k gl ⟨u,M,L,F,A0 r E,D,w,O,H,R,nv,rfl,rfl,j,p,by omega⟩ hK
end
structure ZI (h:bJ) (s:Bool) (A:Option bN) (n c:Nat) (z:Int):Prop where
 cap:n<=c
 mag:Mw h A n (z.natAbs:Int)
 sgn:s=decide (z<0)
def ZI.mono{h h':bJ}{s:Bool}{A:Option bN}{n c:Nat}{z:Int}(i:ZI h s A n c z)(l:h.le h'):ZI h' s A n c z:=⟨i.cap,i.mag.mono l,i.sgn⟩
def ZI.zero{h:bJ}{A:Option bN}:ZI h false A 0 0 0:=⟨bD _,Mag.zero,rfl⟩
def ZI.len{h:bJ}{s:Bool}{A:Option bN}{n c m:Nat}{z:Int}(i:ZI h s A n c z)(hz:ZB m z)(hm:m<=6400000000):n<=100000000:=by
 obtain ⟨k,hk⟩:∃ k,k=100000000:=⟨_,rfl⟩
 rw [<- hk]
 refine i.mag.len_le (by decide) ?_
 rw [Fw]
 have a:(z.natAbs:Int)<2^m:=by
  have:((z.natAbs:Nat):Int)<((2^m:Nat):Int):=Int.ofNat_lt.2 hz
  simpa using this
 have b:=D5 (B:=2) (by decide) (show m<=64*k by omega)
 exact Int.lt_of_lt_of_le a b
def ZI.zeroIff{h:bJ}{s:Bool}{A:Option bN}{n c:Nat}{z:Int}(i:ZI h s A n c z):z=0↔n=0:=by
 have:=i.mag.len_zero (by decide)
 omega
section
variable {h g:bJ} {K:VP} {A B:Option bN} {s s':Bool} {an ac bn bc m:Nat} {x y:Int}
def K9{v:Nat}{n c:Nat}{neg:Bool}(M:Mw h A n (v:Int))(hc:n<=c)(hK:∀ s,ZI h s A n c (if neg then -(v:Int) else v)->K (.agg #[.bool s,.slice A n c]) h):aY prog N3 #[.bool neg,.slice A n c] h K:=by
 have a:=M.len_zero (by decide)
 refine A74 _ _ _ _ ?_
 unfold B0r
 cases neg with
 | true=>
  refine Br.of (fun _=>hK _ ⟨hc,?_,?_⟩) (fun e=>by cases e)
  ·simpa using M
  ·simp only [if_true,decide_eq_decide];omega
 | false=>
  refine Br.of (fun e=>by cases e) (fun _=>hK _ ⟨hc,?_,?_⟩)
  ·simpa using M
  ·simp
def Co(i:ZI h s A an ac x)(hK:∀ s',ZI h s' A an ac (-x)->K (.agg #[.bool s',.slice A an ac]) h):aY prog On #[.agg #[.bool s,.slice A an ac]] h K:=by
 refine B7t _ _ _ _ ?_
 unfold C32
 refine K9 (neg:= !s) i.mag i.cap ?_
 intro c a
 have e:(if (!s)=true then -(x.natAbs:Int) else x.natAbs)= -x:=by
  have:=i.sgn
  by_cases b:x<0
  ·simp only [b,decide_true] at this;subst this;simp;omega
  ·simp only [b,decide_false] at this;subst this;simp;omega
 rw [e] at a
 exact ⟨_,_,_,_,rfl,hK _ a⟩
def Fj(i:ZI h s A an ac x)(j:ZI h s' B bn bc y)(hx:ZB m x)(hy:ZB m y)(hm:m<=6400000000)(hK:∀ s1 A' n' c' h',h.le h'->ZI h' s1 A' n' c' (x+y)->K (.agg #[.bool s1,.slice A' n' c']) h'):aY prog Rq #[.agg #[.bool s,.slice A an ac],.agg #[.bool s',.slice B bn bc]] h K:=by
 have r:=i.len hx hm
 have q:=j.len hy hm
 have g:=i.sgn
 have a:=j.sgn
 refine B7w _ _ _ _ _ _ _ _ ?_
 unfold C35
 refine Br.of (fun e=>?_) (fun e=>?_)
 ·have e:s=s':=by simpa using e
  subst e
  refine O4 i.mag j.mag i.cap j.cap (by omega) (by omega) ?_
  intro A1 p c1 b d n M1
  refine ⟨_,_,_,rfl,d,?_⟩
  rw [<- eV] at M1
  refine K9 (neg:=s) M1 n ?_
  intro s1 c
  refine ⟨_,_,_,_,rfl,B3 _,hK _ _ _ _ _ d ?_⟩
  have k:(if s=true then -((x.natAbs+y.natAbs:Nat):Int) else ((x.natAbs+y.natAbs:Nat):Int))=x+y:=by
   cases s with
   | true=>have b:=of_decide_eq_true g.symm;have l:=of_decide_eq_true a.symm;simp;omega
   | false=>have b:=of_decide_eq_false g.symm;have l:=of_decide_eq_false a.symm;simp;omega
  rw [k] at c
  exact c
 ·have e:s≠s':=by simpa using e
  refine G8 i.mag j.mag (by omega) ⟨_,rfl,B4 (fun b=>?_) (fun b=>?_)⟩
  ·have o:¬ (x.natAbs:Int)<y.natAbs:=by rw [<- Cc];omega
   refine G0 i.mag j.mag i.cap (by omega) (by omega) ?_
   intro A1 p c1 b d n M1
   refine ⟨_,_,_,rfl,d,?_⟩
   rw [show (x.natAbs:Int)-y.natAbs=((x.natAbs-y.natAbs:Nat):Int) by omega] at M1
   refine K9 (neg:=s) M1 n ?_
   intro s1 c
   refine ⟨_,_,_,_,rfl,B3 _,hK _ _ _ _ _ d ?_⟩
   have k:(if s=true then -((x.natAbs-y.natAbs:Nat):Int) else ((x.natAbs-y.natAbs:Nat):Int))=x+y:=by
    cases s with
    | true=>cases s' with
     | true=>exact absurd rfl e
     | false=>have b:=of_decide_eq_true g.symm;have l:=of_decide_eq_false a.symm;rw [iP rfl];omega
    | false=>cases s' with
     | true=>have b:=of_decide_eq_false g.symm;have l:=of_decide_eq_true a.symm;rw [iN (by simp)];omega
     | false=>exact absurd rfl e
   rw [k] at c
   exact c
  ·have o:(x.natAbs:Int)<y.natAbs:=by rw [<- Cc];omega
   refine G0 j.mag i.mag j.cap (by omega) (by omega) ?_
   intro A1 p c1 b d n M1
   refine ⟨_,_,_,rfl,d,?_⟩
   rw [show (y.natAbs:Int)-x.natAbs=((y.natAbs-x.natAbs:Nat):Int) by omega] at M1
   refine K9 (neg:=s') M1 n ?_
   intro s1 c
   refine ⟨_,_,_,_,rfl,B3 _,hK _ _ _ _ _ d ?_⟩
   have k:(if s'=true then -((y.natAbs-x.natAbs:Nat):Int) else ((y.natAbs-x.natAbs:Nat):Int))=x+y:=by
    cases s with
    | true=>cases s' with
     | true=>exact absurd rfl e
     | false=>have b:=of_decide_eq_true g.symm;have l:=of_decide_eq_false a.symm;rw [iN (by simp)];omega
    | false=>cases s' with
     | true=>have b:=of_decide_eq_false g.symm;have l:=of_decide_eq_true a.symm;rw [iP rfl];omega
     | false=>exact absurd rfl e
   rw [k] at c
   exact c
def A81(i:ZI h s A an ac x)(j:ZI h s' B bn bc y)(hx:ZB m x)(hy:ZB m y)(hm:m<=6400000000)(hK:∀ s1 A' n' c' h',h.le h'->ZI h' s1 A' n' c' (x-y)->K (.agg #[.bool s1,.slice A' n' c']) h'):aY prog A9q #[.agg #[.bool s,.slice A an ac],.agg #[.bool s',.slice B bn bc]] h K:=by
 refine B7q _ _ _ _ _ _ _ _ ?_
 unfold C2z
 refine Co j ?_
 intro s1 c
 refine ⟨_,_,_,_,rfl,B3 _,Fj i c hx hy.neg hm ?_⟩
 intro g A2 d c2 e a b
 exact ⟨_,_,_,_,rfl,a,hK _ _ _ _ _ a (by rw [Int.sub_eq_add_neg];exact b)⟩
def L9(i:ZI h s A an ac x)(j:ZI h s' B bn bc y)(hx:ZB m x)(hy:ZB m y)(hm:m<=6400000000)(hK:∀ s1 A' n' c' h',h.le h'->ZI h' s1 A' n' c' (x*y)->K (.agg #[.bool s1,.slice A' n' c']) h'):aY prog Da #[.agg #[.bool s,.slice A an ac],.agg #[.bool s',.slice B bn bc]] h K:=by
 have o:=i.len hx hm
 have n:=j.len hy hm
 have b:=i.sgn
 have a:=j.sgn
 refine B7u _ _ _ _ _ _ _ _ ?_
 unfold C33
 refine G1 i.mag j.mag i.cap j.cap (by omega) (by omega) ?_
 intro A1 l c1 k d e M1
 refine ⟨_,_,_,rfl,d,?_⟩
 rw [<- bU] at M1
 refine K9 (neg:= !(s==s')) M1 e ?_
 intro s1 c
 refine ⟨_,_,_,_,rfl,B3 _,hK _ _ _ _ _ d ?_⟩
 have g:(if (!(s==s'))=true then -((x.natAbs*y.natAbs:Nat):Int) else ((x.natAbs*y.natAbs:Nat):Int))=x*y:=by
  rw [bU]
  cases s with
  | true=>cases s' with
   | true=>rw [show (x.natAbs:Int)= -x by have:=of_decide_eq_true b.symm;omega,show (y.natAbs:Int)= -y by have:=of_decide_eq_true a.symm;omega];show -x * -y=x*y;exact Int.neg_mul_neg x y
   | false=>rw [show (x.natAbs:Int)= -x by have:=of_decide_eq_true b.symm;omega,show (y.natAbs:Int)=y by have:=of_decide_eq_false a.symm;omega];show -(-x*y)=x*y;rw [Int.neg_mul,Int.neg_neg]
  | false=>cases s' with
   | true=>rw [show (x.natAbs:Int)=x by have:=of_decide_eq_false b.symm;omega,show (y.natAbs:Int)= -y by have:=of_decide_eq_true a.symm;omega];show -(x * -y)=x*y;rw [Int.mul_neg,Int.neg_neg]
   | false=>rw [show (x.natAbs:Int)=x by have:=of_decide_eq_false b.symm;omega,show (y.natAbs:Int)=y by have:=of_decide_eq_false a.symm;omega];rfl
 rw [g] at c
 exact c
def Fg(gl:Gtz h)(i:ZI h s A an ac x)(j:ZI h s' B bn bc y)(hx:ZB m x)(hy:ZB m y)(hm:m<=6400000000)(hK:∀ A' n' c' h',h.le h'->ZI h' false A' n' c' (eK x y:Int)->K (.agg #[.bool false,.slice A' n' c']) h'):aY prog Rp #[.agg #[.bool s,.slice A an ac],.agg #[.bool s',.slice B bn bc]] h K:=by
 have a:=i.len hx hm
 have b:=j.len hy hm
 refine B7v _ _ _ _ _ _ _ _ ?_
 unfold C34
 refine Xy gl i.mag j.mag i.cap j.cap a b ?_
 intro A1 g c1 e d c M1
 refine ⟨_,_,_,rfl,hK _ _ _ _ d ⟨c,?_,?_⟩⟩
 ·rw [cQ] at M1
  rw [Int.natAbs_natCast]
  exact M1
 ·simp
def Hb(i:ZI h s A an ac x)(hK:K (I (Int.sign x)) h):aY prog Ng #[.agg #[.bool s,.slice A an ac]] h K:=by
 have c:=i.zeroIff
 have b:=i.sgn
 refine B48 _ _ _ _ ?_
 unfold C00
 refine D9 (fun e=>?_) (fun e=>?_)
 ·obtain rfl:x=0:=by omega
  simpa using hK
 ·refine Br.of (fun a=>?_) (fun a=>?_)
  ·subst a
   have:=of_decide_eq_true b.symm
   rw [dF this] at hK;exact hK
  ·subst a
   have:=of_decide_eq_false b.symm
   rw [dR (by omega)] at hK;exact hK
def Jo(i:ZI h s A an ac x)(j:ZI h s' B bn bc y)(hx:ZB m x)(hy:ZB m y)(hm:m<=6400000000)(hK:K (I (Cj x y)) h):aY prog Hq #[.agg #[.bool s,.slice A an ac],.agg #[.bool s',.slice B bn bc]] h K:=by
 have g:=i.len hx hm
 have k:=j.len hy hm
 have d:=i.sgn
 have a:=j.sgn
 refine A47 _ _ _ _ _ _ _ _ ?_
 unfold A5q
 have c1:x<0->y<0->Cj (y.natAbs:Int) x.natAbs=Cj x y:=fun c b=>by unfold Cj;split<;>split<;>first|rfl|omega|(split<;>split<;>first|rfl|omega)|(split<;>first|rfl|omega)
 have c2:¬ x<0->¬ y<0->Cj (x.natAbs:Int) y.natAbs=Cj x y:=fun c b=>by rw [show (x.natAbs:Int)=x by omega,show (y.natAbs:Int)=y by omega]
 cases s with
 | true=>
  have c:=of_decide_eq_true d.symm
  refine Br.of (fun _=>?_) (fun e=>by cases e)
  cases s' with
  | true=>
   have b:=of_decide_eq_true a.symm
   refine Br.of (fun _=>?_) (fun e=>by cases e)
   exact G8 j.mag i.mag (by omega) ⟨_,rfl,by rw [c1 c b];exact hK⟩
  | false=>
   have b:=of_decide_eq_false a.symm
   refine Br.of (fun e=>by cases e) (fun _=>Br.of (fun _=>?_) (fun e=>by cases e))
   have:Cj x y= -1:=by unfold Cj;rw [iP (by omega)]
   rw [this] at hK;exact hK
 | false=>
  have c:=of_decide_eq_false d.symm
  refine Br.of (fun e=>by cases e) (fun _=>Br.of (fun e=>by cases e) (fun _=>?_))
  cases s' with
  | true=>
   have b:=of_decide_eq_true a.symm
   refine Br.of (fun _=>?_) (fun e=>by cases e)
   have:Cj x y=1:=by unfold Cj;rw [iN (by omega),iP (by omega)]
   rw [this] at hK;exact hK
  | false=>
   have b:=of_decide_eq_false a.symm
   refine Br.of (fun e=>by cases e) (fun _=>?_)
   exact G8 i.mag j.mag (by omega) ⟨_,rfl,by rw [c2 c b];exact hK⟩
end
section
variable {h g:bJ} {K:VP} {A B:Option bN} {s s':Bool} {an ac bn bc m:Nat} {x y:Int}
def Fp(hs:s=decide (x<0)):(s=true/\x= -(x.natAbs:Int))\/(s=false/\x=(x.natAbs:Int)):=by
 by_cases h:x<0
 ·left;exact ⟨by rw [hs];simpa using h,by omega⟩
 ·right;exact ⟨by rw [hs];simpa using h,by omega⟩
def B2x(a b:Nat):(a:Int).tdiv b=((a/b:Nat):Int)/\(-(a:Int)).tdiv (-(b:Int))=((a/b:Nat):Int)/\(-(a:Int)).tdiv b= -((a/b:Nat):Int)/\(a:Int).tdiv (-(b:Int))= -((a/b:Nat):Int):=by
 refine ⟨(cT a b).symm,?_,?_,?_⟩
 ·rw [Int.neg_tdiv,Int.tdiv_neg,Int.neg_neg,cT]
 ·rw [Int.neg_tdiv,cT]
 ·rw [Int.tdiv_neg,cT]
def A4t(a b:Nat):(a:Int).tmod b=((a%b:Nat):Int)/\(-(a:Int)).tmod (-(b:Int))= -((a%b:Nat):Int)/\(-(a:Int)).tmod b= -((a%b:Nat):Int)/\(a:Int).tmod (-(b:Int))=((a%b:Nat):Int):=by
 refine ⟨(eB a b).symm,?_,?_,?_⟩
 ·rw [Int.neg_tmod,Int.tmod_neg,eB]
 ·rw [Int.neg_tmod,eB]
 ·rw [Int.tmod_neg,eB]
def Oa(i:ZI h s A an ac x)(j:ZI h s' B bn bc y)(hx:ZB m x)(hy:ZB m y)(hm:m<=6400000000)(hy0:y≠0)(hK:∀ s1 A1 n1 c1 s2 A2 n2 c2 h',h.le h'->ZI h' s1 A1 n1 c1 (x.tdiv y)->ZI h' s2 A2 n2 c2 (x.tmod y)->K (.tuple #[.agg #[.bool s1,.slice A1 n1 c1],.agg #[.bool s2,.slice A2 n2 c2]]) h'):aY prog Ko #[.agg #[.bool s,.slice A an ac],.agg #[.bool s',.slice B bn bc]] h K:=by
 have u:=i.len hx hm
 have r:=j.len hy hm
 have o:=j.zeroIff
 have a:=Fp i.sgn
 have d:=Fp j.sgn
 refine A71 _ _ _ _ _ _ _ _ ?_
 unfold B0m
 refine D9 (fun e=>by omega) (fun _=>?_)
 refine Y7 i.mag j.mag i.cap j.cap (by omega) (by omega) (by omega) ?_
 intro A1 q c1 A2 n c2 p l k g M1 M2
 refine ⟨_,_,_,_,_,_,rfl,?_⟩
 rw [<- dN] at M1
 rw [<- eR] at M2
 refine K9 (neg:= !(s==s')) M1 k ?_
 intro s1 c
 refine ⟨_,_,_,_,rfl,B3 _,?_⟩
 refine K9 (neg:=s) M2 g ?_
 intro s2 b
 refine ⟨_,_,_,_,rfl,B3 _,hK _ _ _ _ _ _ _ _ _ l ?_ ?_⟩
 ·have e:(if (!(s==s'))=true then -((x.natAbs/y.natAbs:Nat):Int) else ((x.natAbs/y.natAbs:Nat):Int))=x.tdiv y:=by
   have t:=B2x x.natAbs y.natAbs
   rcases a with ⟨rfl,hx'⟩|⟨rfl,hx'⟩<;>rcases d with ⟨rfl,hy'⟩|⟨rfl,hy'⟩<;>rw [<- hx',<- hy'] at t
   ·exact t.2.1.symm
   ·exact t.2.2.1.symm
   ·exact t.2.2.2.symm
   ·exact t.1.symm
  rw [e] at c;exact c
 ·have e:(if s=true then -((x.natAbs%y.natAbs:Nat):Int) else ((x.natAbs%y.natAbs:Nat):Int))=x.tmod y:=by
   have t:=A4t x.natAbs y.natAbs
   rcases a with ⟨rfl,hx'⟩|⟨rfl,hx'⟩<;>rcases d with ⟨rfl,hy'⟩|⟨rfl,hy'⟩<;>rw [<- hx',<- hy'] at t
   ·exact t.2.1.symm
   ·exact t.2.2.1.symm
   ·exact t.2.2.2.symm
   ·exact t.1.symm
  rw [e] at b;exact b
def V9(i:ZI h s A an ac x)(hK:K (.bool (decide (x=0))) h):aY prog G2 #[.agg #[.bool s,.slice A an ac]] h K:=by
 have b:=i.zeroIff
 refine A72 _ _ _ _ ?_
 unfold B0n
 have:((an:Int)==0)=decide (x=0):=by
  by_cases a:x=0
  ·simp [a,b.1 a]
  ·have:¬ an=0:=fun e=>a (b.2 e)
   simp [a,this]
 rw [this];exact hK
def S8(i:ZI h s A an ac x)(hK:K (.bool (decide (x=1))) h):aY prog Bt #[.agg #[.bool s,.slice A an ac]] h K:=by
 have g:=Fp i.sgn
 have l:=i.zeroIff
 have M:=i.mag
 refine B0o _ _ _ _ ?_
 unfold B5l
 rcases g with ⟨rfl,m⟩|⟨rfl,m⟩
 ·refine Br.of (fun e=>by cases e) (fun _=>?_)
  rw [show decide (x=1)=false by simp;omega] at hK;exact hK
 ·refine Br.of (fun _=>?_) (fun e=>by cases e)
  obtain ⟨d,a,k,n,o,c⟩:=M
  refine D9 (fun e=>?_) (fun e=>?_)
  ·obtain ⟨w,rfl⟩:∃ w,d=[w]:=by
    rcases d with _|⟨w,_|⟨p,r⟩⟩
    ·simp at a;omega
    ·exact ⟨w,rfl⟩
    ·simp at a;omega
   refine k.load a (by omega) (by omega) ?_
   rw [S9] at c
   show K (.bool (w==1)) h
   have:(w==1)=decide (x=1):=by
    by_cases b:x=1
    ·have:w=1:=by omega
     simp [b,this]
    ·have:¬ w=1:=by omega
     simp [b,this]
   rw [this];exact hK
  ·have:¬ x=1:=by
    rintro rfl
    have b:=i.mag.len_le (j:=1) (by decide) (by decide)
    have q:¬ an=0:=fun e=>by have:=l.2 e;omega
    omega
   rw [show decide (x=1)=false by simp [this]] at hK;exact hK
def Cn(i:ZI h s A an ac x)(j:ZI h s' B bn bc y)(hx:ZB m x)(hy:ZB m y)(hm:m<=6400000000)(hy0:y≠0)(hK:∀ s1 A1 n1 c1 h',h.le h'->ZI h' s1 A1 n1 c1 (x.tdiv y)->K (.agg #[.bool s1,.slice A1 n1 c1]) h'):aY prog Om #[.agg #[.bool s,.slice A an ac],.agg #[.bool s',.slice B bn bc]] h K:=by
 refine B7r _ _ _ _ _ _ _ _ ?_
 unfold C30
 refine S8 j ⟨_,rfl,B4 (fun e=>?_) (fun e=>?_)⟩
 ·subst e
  exact hK _ _ _ _ _ (B3 _) (by rw [Int.tdiv_one];exact i)
 ·refine Oa i j hx hy hm hy0 ?_
  intro s1 A1 n1 c1 k A2 c c2 g b a d
  exact ⟨_,_,_,_,_,_,_,_,rfl,hK _ _ _ _ _ b a⟩
def Zx{n:Int}(h1: -9223372036854775808<=n)(h2:n<=9223372036854775807)(hK:∀ s1 A1 n1 c1 h',h.le h'->ZI h' s1 A1 n1 c1 n->K (.agg #[.bool s1,.slice A1 n1 c1]) h'):aY prog A59 #[I n] h K:=by
 refine B7x _ ?_
 unfold C36
 refine B4 (fun a=>?_) (fun a=>?_)
 ·have e:B8 (0-B8 n)=(n.natAbs:Int):=by rw [D8,D8];omega
  rw [e]
  refine Ac (by omega) ?_
  intro A1 d c1 h1 c b M1
  exact ⟨_,_,_,rfl,hK _ _ _ _ _ c ⟨b,M1,by simpa using a⟩⟩
 ·have e:B8 n=(n.natAbs:Int):=by rw [D8];omega
  rw [e]
  refine Ac (by omega) ?_
  intro A1 d c1 h1 c b M1
  exact ⟨_,_,_,rfl,hK _ _ _ _ _ c ⟨b,M1,by simpa using a⟩⟩
end
def A66{P:dD}{t d e:cH}(ht:P.underlying t=some .string)(hd:P.underlying d=some (.slice e))(he:P.underlying e=some (.int .u8)){h:bJ}{l:List UInt8}{K:VP}
 (x:∀ A c h',h.le h'->l.length<=c->SlV h' A (yv l)->K (.slice A l.length c) h'):wpH P (convert t d (.string (bs l))) K h:=by
 unfold convert
 simp only [C3,E3 ht,E3 hd,E3 he]
 unfold Conv.stringToBytes
 simp only [C3]
 refine Hf rfl (fun p=>?_)
 have a:(bs l).size=l.length:=by simp [bs,ByteArray.size]
 have g:l.length<=(Question.appendCap (bs l).size 0 e).cut p:=by
  rw [a];simp only [Question.cut];omega
 generalize (Question.appendCap (bs l).size 0 e).cut p=cap at *
 rw [N9]
 intro b s
 generalize hcs:((bs l).data.map (fun b=>bH .u8 b.toNat)++Array.replicate (cap-(bs l).size) (bH .u8 0))=cs
 have n:h.le (h.put b (.cells cs e (cs.size,cs.size+1))):=Heap.le_put _ s
 have m:(h.put b (.cells cs e)).freeze { block:=b,off:=cs.size } 1=h.put b (.cells cs e (cs.size,cs.size+1)):=by
  unfold Heap.freeze
  rw [iN (by decide)]
  funext k
  by_cases j:k=b
  ·subst j
   simp only [if_true,C4,Option.map_some]
   rfl
  ·rw [iN j,B7 _ _ j,B7 _ _ j]
 refine ⟨cs,e,_,C4 _ _ _,?_⟩
 refine ⟨⟨_,C4 _ _ _⟩,?_⟩
 show K (.slice (some ⟨b,0,none⟩) (bs l).size cap) ((h.put b (.cells cs e)).freeze { block:=b,off:=cs.size } 1)
 rw [m,a]
 refine x _ _ _ n g (.inr ⟨_,rfl,?_⟩)
 intro i v o
 have r:i<l.length:=by
  have:=(List.getElem?_eq_some_iff.1 o).1
  simpa [yv] using this
 have q:eC ⟨b,0,none⟩ i=⟨b,i,none⟩:=by rw [I0,fJ]
 rw [q,G3,<- hcs,Array.getElem?_append_left (by simp [bs];exact r)]
 rw [<- o]
 simp [yv,bs]
def A3q{x y:Int}(hy:0<y):(x.tmod y<0->x/y=x.tdiv y-1)/\(0<=x.tmod y->x/y=x.tdiv y):=by
 have b:=Int.mul_tdiv_add_tmod x y
 have e: -y<x.tmod y/\x.tmod y<y:=by
  have c:=eF x.natAbs (show 0<y.natAbs by omega)
  have t:=A4t x.natAbs y.natAbs
  rw [show ((y.natAbs:Nat):Int)=y by omega] at t
  by_cases d:x<0
  ·rw [show -((x.natAbs:Nat):Int)=x by omega] at t
   have:=t.2.2.1
   omega
  ·rw [show ((x.natAbs:Nat):Int)=x by omega] at t
   have:=t.1
   omega
 refine ⟨fun h=>?_,fun h=>?_⟩
 ·refine (Yt (a:=x.tmod y+y) ?_ (by omega) (by omega)).1
  rw [Int.mul_sub];omega
 ·exact (Yt (a:=x.tmod y) (by omega) h (by omega)).1
def ZB.tdiv{m:Nat}{x y:Int}(h:ZB m x):ZB m (x.tdiv y):=by
 unfold ZB at *
 rw [Int.natAbs_tdiv]
 exact Nat.lt_of_le_of_lt (eU _ _) h
section
variable {h g:bJ} {K:VP} {A B:Option bN} {s s':Bool} {an ac bn bc m:Nat} {x y:Int}
def Ty(i:ZI h s A an ac x)(j:ZI h s' B bn bc y)(hx:ZB m x)(hy:ZB m y)(hm:m+1<=6400000000)(hy0:0<y)(hK:∀ s1 A1 n1 c1 h',h.le h'->ZI h' s1 A1 n1 c1 (x/y)->K (.agg #[.bool s1,.slice A1 n1 c1]) h'):aY prog Jc #[.agg #[.bool s,.slice A an ac],.agg #[.bool s',.slice B bn bc]] h K:=by
 have l:=A3q (x:=x) hy0
 refine A1s _ _ _ _ _ _ _ _ ?_
 unfold A1t
 refine Oa i j hx hy (by omega) (by omega) ?_
 intro s1 A1 n1 c1 H A2 u c2 r c d o
 refine ⟨_,_,_,_,_,_,_,_,rfl,?_⟩
 refine Hb o ⟨_,rfl,B3 _,?_⟩
 refine Hb (j.mono c) ⟨_,rfl,B3 _,?_⟩
 rw [dR hy0,Int.mul_one]
 have D: -1<=Int.sign (x.tmod y)/\Int.sign (x.tmod y)<=1:=by
  rcases Int.lt_trichotomy (x.tmod y) 0 with h|h|h
  ·rw [dF h];omega
  ·rw [h];decide
  ·rw [dR h];omega
 rw [B6 (by omega) (by omega)]
 refine B4 (fun e=>?_) (fun e=>?_)
 ·have a:x.tmod y<0:=Int.sign_neg_iff.1 e
  refine Zx (by omega) (by omega) ?_
  intro L A3 E J F g p
  refine ⟨_,_,_,_,rfl,g,?_⟩
  refine A81 (m:=m+1) (d.mono g) p (hx.tdiv.mono (by omega)) ?_ hm ?_
  ·unfold ZB
   have:1<=2^m:=Nat.one_le_two_pow
   rw [Nat.pow_succ];simp;omega
  ·intro G A4 C w z k n
   rw [<- l.1 a] at n
   exact ⟨_,_,_,_,rfl,k,hK _ _ _ _ _ (A0 c (A0 g k)) n⟩
 ·have b:0<=x.tmod y:=by
   by_cases q:x.tmod y<0
   ·exact absurd (by rw [dF q];decide) e
   ·omega
  rw [<- l.2 b] at d
  exact hK _ _ _ _ _ c d
end
