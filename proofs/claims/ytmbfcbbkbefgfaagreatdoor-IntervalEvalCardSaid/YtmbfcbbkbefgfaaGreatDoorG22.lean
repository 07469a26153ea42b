/- A part. -/
import Derived.Test.YtmbfcbbkbefgfaaGreatDoorG16
import Derived.Test.YtmbfcbbkbefgfaaGreatDoorG18
open Go.Proofs.Tryz
set_option linter.all false
open _root_.Go.Addr renaming add->eC
open _root_.Go.Builtin renaming copy_->dL
open _root_.Go.Extern.MathBitsCarry renaming m64->aT,pair->fD
open _root_.Go.Instr renaming storeAt->dK
open Int renaming toNat_natCast->aC,mul_le_mul_of_nonneg_right->aD,mul_le_mul_of_nonneg_left->aG,emod_lt_of_pos->aJ,mul_ediv_add_emod->aK,le_of_lt->aL,mul_comm->aP,mul_nonneg->aQ,emod_nonneg->aR,pow_add->aW,pow_succ->aZ,tdiv_eq_ediv_of_nonneg->bB,ediv_lt_of_lt_mul->bC,pow_pos->bG,mul_lt_mul_of_pos_right->bI,ediv_eq_zero_of_lt->bK,ediv_nonneg->bM,natCast_mul->bU,tmod_eq_emod_of_nonneg->bW,mul_lt_mul_of_pos_left->bX,mul_assoc->cD,mul_add->cI,lt_of_le_of_lt->cJ,zero_add->cO,gcd_natCast_natCast->cQ,eq_ofNat_of_zero_le->cR,ofNat_tdiv->cT,tdiv->dE,sign_eq_neg_one_of_neg->dF,mul_le_mul->dG,fdiv->dH,natCast_ediv->dN,ediv_le_self->dO,ediv_ediv_of_nonneg->dP,zero_mul->dQ,sign_eq_one_of_pos->dR,add_mul_ediv_right->dS,add_comm->dT,add_mul_ediv_left->dY,ofNat_tmod->eB,mul_ediv_cancel->eD,mul_zero->eJ,gcd->eK,emod_eq_of_lt->eM,add_zero->eO,natCast_emod->eR,natCast_add->eV,add_mul_emod_self_right->eX,fdiv_eq_ediv_of_nonneg->fB,zero_emod->fE,toNat_pow_of_nonneg->fH,pow_zero->fO
open List renaming replicate->aE,length_take->aF,getElem?_cons_zero->aH,take_of_length_le->aM,length_append->aN,getElem?_cons_succ->aO,length_drop->aS,eq_nil_of_length_eq_zero->aU,take_length->aV,drop_of_length_le->aX,drop_replicate->bA,append_assoc->bF,length_set->bL,length_replicate->bY,getElem?_eq_none->bZ,nil_append->cA,append_nil->cC,take_replicate->cF,getD->cK,drop_drop->cM,take_left'->cP,replicate_append_replicate->cU,take_append_drop->cW,drop_append_of_le_length->cZ,map_append->dB,drop_left'->dC,length_map->dV,getElem?_toArray->dX,drop_length->eP,drop_append->eQ,take_append_of_le_length->eS,getElem?_append_right->eZ,drop_zero->fA,drop_eq_getElem_cons->fC,getElem?_set_self->fN
open List.cons renaming injEq->bO
open Nat renaming min_eq_left->aI,le_refl->bD,sub_zero->bV,add_sub_cancel_left->cG,gcd->cX,pow_pos->cY,one_mul->dI,add_mul->dJ,min_eq_right->dM,div_add_mod->dU,mul_one->eA,mul_assoc->eE,mod_lt->eF,mul_comm->eG,add_zero->eI,div_le_self->eU,testBit_two_pow_mul->fF,mul_div_cancel_left->fG,zero_mul->fI,zero_add->fJ,le_mul_of_pos_left->fK,gcd_sub_self_right->fL,gcd_comm->fM
open Nat.Coprime renaming gcd_mul_left_cancel_right->cN
open _root_.Go.Value renaming int->bH
open _root_.Go.Value.int renaming injEq->dA
open _root_.Go.Value.slice renaming injEq->cL
open _root_.Go renaming Addr->bN,TypeId->cH,IntKind->cV,Program->dD,Value->dZ
open _root_.Go.Proofs.YtmbfcbbkbefgfaaGreatDoor renaming FCall->aY,Heap->bJ
namespace Go.Proofs.YtmbfcbbkbefgfaaGreatDoor
set_option maxRecDepth 20000
open Go
def ndg(x:Nat):Nat:=x*78913/262144
def B58:∀ x,x<65->2^x<=10^(ndg x+1)/\(ndg x=0\/10^(ndg x-1)<=2^(x-1))/\ndg x<=19:=by decide
def A1m{n k:Nat}(h1:10^k<=n)(h2:n<10^(k+1)):(dd n).length=k+1:=by
 have a:=(N6 (n:=n) (k:=k+1)).2 h2
 have b:¬ (dd n).length<=k:=fun e=>by have:=N6.1 e;omega
 omega
def B98{d:Nat}(h0:d≠0)(h:d<2^64):(dd d).length=ndg (I9 d)+(if 10^ndg (I9 d)<=d then 1 else 0):=by
 have j:=Ep h
 obtain ⟨e,l⟩:=Bj h0
 obtain ⟨i,b,g⟩:=B58 (I9 d) (by omega)
 split
 ·rename_i a
  exact A1m a (by omega)
 ·rename_i a
  rcases b with b|b
  ·rw [b] at a;simp at a;omega
  ·obtain ⟨k,hk⟩:∃ k,ndg (I9 d)=k+1:=by
    by_cases c:ndg (I9 d)=0
    ·rw [c] at a;simp at a;omega
    ·exact ⟨ndg (I9 d)-1,by omega⟩
   rw [hk] at a b ⊢
   rw [Nat.add_sub_cancel] at b
   rw [eI]
   exact A1m (by omega) (by omega)
def B71(w n:Nat):pad (w+2) n=pad w (n/100)++[dch (n/10%10),dch (n%10)]:=by
 rw [Py,Py,Nat.div_div_eq_div_mul];simp
def A8z(n:Nat)(h:n=0):pad 0 n=[]:=by subst h;simp [pad,F7]
abbrev b64:Int:=18446744073709551616
abbrev Mw(h:bJ)(A:Option bN)(len:Nat)(n:Int):Prop:=Mag .u64 b64 h A len n
structure Win (k:cV) (h g:bJ) (b:Nat) (e:cH) (A:Option bN) (pre:List dZ) (xs:List Int) (post:List dZ):Prop where
 free:g b=none
 eq:h=g.put b (.cells (pre++xs.map (bH k)++post).toArray e)
 at_:xs=[]\/A=some ⟨b,pre.length,none⟩
section
variable {k:cV} {h g:bJ} {b:Nat} {e:cH} {A:Option bN} {pre post:List dZ} {xs:List Int}
def Win.le(w:Win k h g b e A pre xs post):g.le h:=by rw [w.eq];exact Heap.le_put _ w.free
def Win.sl(w:Win k h g b e A pre xs post):SlI k h A xs:=by
 rcases w.at_ with rfl|d
 ·exact SlI.nil
 ·right
  refine ⟨_,d,fun i v a=>?_⟩
  rw [w.eq,I0,G3]
  have c:i<(xs.map (bH k)).length:=by
   by_cases j:i<(xs.map (bH k)).length
   ·exact j
   ·rw [bZ (by omega)] at a;cases a
  simp only [dX]
  rw [bF,eZ (by omega),cG,List.getElem?_append_left c]
  exact a
def Win.store{P:dD}{t:cH}(one:P.cellsOf t=1/\(P.info? t).isSome=true)(w:Win k h g b e A pre xs post){a:bN}(ha:A=some a){i v:Int}(h0:0<=i)(h1:i<xs.length){K:Unit->bJ->Prop}
 (x:∀ h',Win k h' g b e A pre (xs.set i.toNat v) post->K () h'):wpH P (dK t (.pointer (some (eC a (i.toNat*1)))) (.int k v)) K h:=by
 have d:i.toNat<xs.length:=by omega
 have c:A=some ⟨b,pre.length,none⟩:=by
  rcases w.at_ with rfl|c
  ·simp at d
  ·exact c
 rw [ha] at c
 cases c
 rw [w.eq,I0,eA]
 refine A0i one.1 one.2 rfl rfl (by simp;omega) ?_
 refine x _ ⟨w.free,?_,.inr ha⟩
 have:(pre++xs.map (bH k)++post).toArray.setIfInBounds (pre.length+i.toNat) (.int k v)=(pre++(xs.set i.toNat v).map (bH k)++post).toArray:=by
  rw [List.map_set]
  simp only [List.setIfInBounds_toArray,bF]
  congr 1
  rw [List.set_append_right _ _ (by omega),cG,List.set_append_left _ _ (by simpa using d)]
 rw [this]
def Win.storeN{P:dD}{t:cH}(one:P.cellsOf t=1/\(P.info? t).isSome=true)(w:Win k h g b e A pre xs post){a:bN}(ha:A=some a){i:Nat}{v:Int}(h1:i<xs.length){K:Unit->bJ->Prop}
 (x:∀ h',Win k h' g b e A pre (xs.set i v) post->K () h'):wpH P (dK t (.pointer (some (eC a (i*1)))) (.int k v)) K h:=by
 have:=w.store one ha (i:=(i:Int)) (v:=v) (K:=K) (by omega) (by omega) (by simpa using x)
 simpa using this
def Win.call{P:dD}{f:FuncId}{args:Array dZ}(w:Win k h g b e A pre xs post){K:VP}(x:aY P f args g (fun r h0=>∀ h',Win k h' h0 b e A pre xs post->K r h')):aY P f args h K:=by
 rw [w.eq]
 exact FCall.frame w.free x fun r h0 a c=>c _ ⟨a,rfl,w.at_⟩
def Win.blk(k:cV)(e:cH){g:bJ}{b:Nat}(hb:g b=none)(zs:List Int):Win k (Go.Proofs.YtmbfcbbkbefgfaaGreatDoor.blk k e g b zs) g b e (some ⟨b,0,none⟩) [] zs []:=
 ⟨hb,by simp [Go.Proofs.YtmbfcbbkbefgfaaGreatDoor.blk],.inr rfl⟩
def Win.sub(w:Win k h g b e A pre xs post){l m c:Nat}(hl:l<=m)(hm:m<=xs.length)(hc:xs.length<=c):
 Win k h g b e (J4 A c l 1) (pre++(xs.take l).map (bH k)) ((xs.drop l).take (m-l)) ((xs.drop m).map (bH k)++post):=by
 refine ⟨w.free,?_,?_⟩
 ·rw [w.eq]
  congr 3
  have:xs=xs.take l++((xs.drop l).take (m-l)++xs.drop m):=by
   have d:xs.drop m=(xs.drop l).drop (m-l):=by rw [cM];congr 1;omega
   rw [d,cW,cW]
  conv=>lhs;rw [this]
  simp [dB,bF]
 ·by_cases i:m-l=0
  ·left;simp [i]
  ·right
   rcases w.at_ with rfl|a
   ·simp at hm;omega
   ·unfold J4
    rw [iN (by omega),a]
    simp only [Option.map_some,I0,eA,aN,dV,aF]
    rw [aI (by omega)]
def Win.whole{h' g':bJ}(w:Win k h g b e A pre xs post){l m:Nat}(hl:l<=m)(hm:m<=xs.length){B:Option bN}{ys:List Int}(hy:ys.length=m-l)(v:Win k h' g' b e B (pre++(xs.take l).map (bH k)) ys ((xs.drop m).map (bH k)++post)):
 Win k h' g' b e A pre (xs.take l++ys++xs.drop m) post:=by
 refine ⟨v.free,?_,?_⟩
 ·rw [v.eq]
  congr 3
  simp [dB,bF]
 ·rcases w.at_ with rfl|a
  ·left
   simp at hm
   have:ys=[]:=aU (by omega)
   simp [this]
  ·exact .inr a
def Priv.win{n c:Nat}(p:Priv h g e 1 A n c (xs.map (bH k)))(hx:xs≠[]):∃ b post,Win k h g b e A [] xs post:=by
 obtain ⟨m,o,i⟩:=p
 rcases i with ⟨r,rfl⟩|⟨b,a,j,l,rfl,q,d⟩
 ·simp at m
  exact absurd (aU (by omega)) hx
 ·refine ⟨b,a.drop (n*1),l,?_,.inr j⟩
  rw [cA,<- d,cW]
end
def Dh{P:dD}{t:cH}(one:P.cellsOf t=1/\(P.info? t).isSome=true){k:cV}{n:Int}{i:Nat}{g:bJ}{b:Nat}{e:cH}{zs:List Int}(hi:i<zs.length){K:Unit->bJ->Prop}
 (x:K () (blk k e g b (zs.set i n))):wpH P (dK t (.pointer (some (eC ⟨b,0,none⟩ (i*1)))) (.int k n)) K (blk k e g b zs):=by
 have:=N7 (P:=P) (t:=t) one (k:=k) (n:=n) (i:=(i:Int)) (g:=g) (b:=b) (e:=e) (zs:=zs) (K:=K) (by simpa using hi) (by simpa using x)
 simpa using this
def Eo{P:dD}{t e e' ty:cH}{k:cV}{bytes:Nat}(s:SliceT P t e' (.int k 0) 1 bytes){h g:bJ}{b:Nat}{A:Option bN}{pre post:List dZ}{xs:List Int}{n c m d:Nat}(w:Win k h g b e A pre xs post)(hn:n=xs.length){B:Option bN}{ys:List Int}(sy:SlI k h B ys)(hm:m=ys.length)(hle:ys.length<=xs.length){K:VP}
 (x:∀ h',Win k h' g b e A pre (ys++xs.drop ys.length) post->K (I ys.length) h'):wpH P (dL #[t,t] ty #[.slice A n c,.slice B m d]) K h:=by
 subst hn hm
 obtain ⟨i,r,y,o,p⟩:=s.parts
 unfold dL
 simp only [dX,aH,aO,C3,E3 s.und,J5 r,F4,Builtin.lenOf,o]
 have l:Nat.min ys.length xs.length=ys.length:=aI hle
 rw [l]
 refine I6 (s:=1) (cs:=ys.map (bH k)) (by simp) sy ?_
 cases A with
 | none=>
  rcases w.at_ with j|j
  ·subst j
   have:ys=[]:=aU (by simpa using hle)
   subst this
   exact x h (by simpa using w)
  ·cases j
 | some a=>
  simp only [C3]
  rcases w.at_ with j|j
  ·subst j
   have:ys=[]:=aU (by simpa using hle)
   subst this
   exact x h (by simpa using w)
  ·cases j
   rw [w.eq]
   refine H5 (ys.map (bH k)) pre.length 0 (pre++xs.map (bH k)++post) (by simp;omega) (fun v q=>?_) ?_
   ·obtain ⟨u,_,rfl⟩:=List.mem_map.1 q;rfl
   ·refine x _ ⟨w.free,?_,?_⟩
    ·congr 3
     unfold J8
     rw [eI,bF pre,cP rfl,dV]
     rw [eQ,aX (show pre.length<=pre.length+ys.length by omega),cG,cA]
     rw [cZ (by simpa using hle),<- List.map_drop,dB]
     simp only [bF]
    ·right;rfl
def A4u{P:dD}{nm:String}{x y c:Int}(hc:0<=c/\c<=1){f:Nat × Nat × Nat->dZ}:My P (Extern.MathBitsCarry.three nm #[U x,U y,U c] >>= fun p=>pure (f p))=some (f (x.toNat,y.toNat,c.toNat)):=by
 obtain rfl|rfl:c=0\/c=1:=by omega
 ·rfl
 ·rfl
def A9g:aT=18446744073709551616:=by decide
def Es{h:bJ}{K:VP}{x y c:Int}(hx:0<=x/\x<18446744073709551616)(hy:0<=y/\y<18446744073709551616)(hc:0<=c/\c<=1)(hK:K (.tuple #[U ((x+y+c)%18446744073709551616),U ((x+y+c)/18446744073709551616)]) h):ECall prog Ai #[U x,U y,U c] h K:=by
 refine B5g A7z (A4u (P:=prog) hc (f:=fun p=>fD ((p.1+p.2.1+p.2.2)%aT) ((p.1+p.2.1+p.2.2)/aT))) ?_
 have b:((x.toNat+y.toNat+c.toNat)%aT:Nat)=(((x+y+c)%18446744073709551616:Int)):=by
  rw [A9g]
  omega
 have a:((x.toNat+y.toNat+c.toNat)/aT:Nat)=(((x+y+c)/18446744073709551616:Int)):=by
  rw [A9g]
  omega
 show K (.tuple #[U ((x.toNat+y.toNat+c.toNat)%aT:Nat),U ((x.toNat+y.toNat+c.toNat)/aT:Nat)]) h
 rw [b,a];exact hK
def Dr{h:bJ}{K:VP}{x y c:Int}(hx:0<=x/\x<18446744073709551616)(hy:0<=y/\y<18446744073709551616)(hc:0<=c/\c<=1)(hK:K (.tuple #[U ((x-y-c)%18446744073709551616),U (if x-y-c<0 then 1 else 0)]) h):ECall prog Ah #[U x,U y,U c] h K:=by
 refine B5g A7y (A4u (P:=prog) hc (f:=fun p=>fD ((p.1+aT-p.2.1-p.2.2)%aT) (if p.1<p.2.1+p.2.2 then 1 else 0))) ?_
 have b:((x.toNat+aT-y.toNat-c.toNat)%aT:Nat)=(((x-y-c)%18446744073709551616:Int)):=by
  rw [A9g]
  omega
 have a:(((if x.toNat<y.toNat+c.toNat then 1 else 0:Nat):Nat):Int)=(if x-y-c<0 then 1 else 0):=by
  split<;>split<;>omega
 show K (.tuple #[U ((x.toNat+aT-y.toNat-c.toNat)%aT:Nat),U ((if x.toNat<y.toNat+c.toNat then 1 else 0:Nat):Nat)]) h
 rw [b,a];exact hK
def Cj(x y:Int):Int:=if x<y then -1 else if x>y then 1 else 0
def A97{h:bJ}{K:VP}{x:Int}(hK:K (.bool false) h):aY prog Hu #[I x] h K:=by
 refine A4k _ ?_
 unfold A61
 have:(x != x)=false:=by simp
 rw [this];exact hK
def A96{h:bJ}{K:VP}{x:Int}(hK:K (.bool false) h):aY prog Ag #[U x] h K:=by
 refine Uq _ ?_
 unfold Tv
 have:(x != x)=false:=by simp
 rw [this];exact hK
def A98{h:bJ}{K:VP}{x:Int}(hK:K (.bool false) h):aY prog Bz #[I x] h K:=by
 refine Zt _ ?_
 unfold Wu
 have:(x != x)=false:=by simp
 rw [this];exact hK
def Ss{h:bJ}{K:VP}{x y:Int}(hK:K (I (Cj x y)) h):aY prog Ld #[I x,I y] h K:=by
 refine B2b _ _ ?_
 unfold B6e
 refine A97 ⟨_,rfl,A97 ⟨_,rfl,?_⟩⟩
 unfold Cj at hK
 refine B4 (fun a=>?_) (fun a=>B4 (fun b=>?_) (fun b=>?_))
 ·rw [iP a] at hK;exact hK
 ·rw [iN a,iP b] at hK;exact hK
 ·rw [iN a,iN b] at hK;exact hK
def B08{h:bJ}{K:VP}{x y:Int}(hK:K (I (Cj x y)) h):aY prog Ji #[U x,U y] h K:=by
 refine A2g _ _ ?_
 unfold A2h
 refine A96 ⟨_,rfl,A96 ⟨_,rfl,?_⟩⟩
 unfold Cj at hK
 refine B4 (fun a=>?_) (fun a=>B4 (fun b=>?_) (fun b=>?_))
 ·rw [iP a] at hK;exact hK
 ·rw [iN a,iP b] at hK;exact hK
 ·rw [iN a,iN b] at hK;exact hK
def B0a{h:bJ}{K:VP}{x y:Int}(hK:K (I (Cj x y)) h):aY prog Nm #[I x,I y] h K:=by
 refine A4l _ _ ?_
 unfold A62
 refine A98 ⟨_,rfl,A98 ⟨_,rfl,?_⟩⟩
 unfold Cj at hK
 refine B4 (fun a=>?_) (fun a=>B4 (fun b=>?_) (fun b=>?_))
 ·rw [iP a] at hK;exact hK
 ·rw [iN a,iP b] at hK;exact hK
 ·rw [iN a,iN b] at hK;exact hK
def Kg{h:bJ}{K:VP}{x y:Int}(hx:0<=x/\x<18446744073709551616)(hy:0<=y/\y<18446744073709551616)(hK:K (.tuple #[U (x*y/18446744073709551616),U (x*y%18446744073709551616)]) h):aY prog Ek #[U x,U y] h K:=by
 refine B2c _ _ ?_
 unfold B6f
 rw [As hx,As hy]
 simp only [Tz]
 obtain ⟨e,d,b,c,a⟩:=A3i hx hy (x1:=x/4294967296) (x0:=x%4294967296) (y1:=y/4294967296) (y0:=y%4294967296) (by omega) (by omega) (by omega) (by omega)
 generalize x/4294967296*(y/4294967296)=p11 at *
 generalize x/4294967296*(y%4294967296)=p10 at *
 generalize x%4294967296*(y/4294967296)=p01 at *
 generalize x%4294967296*(y%4294967296)=p00 at *
 rw [B9 (n:=p00) (by omega) (by omega),B9 (n:=p10) (by omega) (by omega),B9 (n:=p01) (by omega) (by omega),B9 (n:=p11) (by omega) (by omega)]
 rw [B9 (n:=p10+p00/4294967296) (by omega) (by omega),As (by omega)]
 rw [B9 (n:=(p10+p00/4294967296)%4294967296+p01) (by omega) (by omega)]
 rw [B9 (n:=p11+(p10+p00/4294967296)/4294967296) (by omega) (by omega),B9 (by omega) (by omega),D8]
 have:p11+(p10+p00/4294967296)/4294967296+((p10+p00/4294967296)%4294967296+p01)/4294967296=x*y/18446744073709551616:=by
  rw [a];omega
 rw [this];exact hK
def O9{h:bJ}{K:VP}{x y c:Int}(hx:0<=x/\x<18446744073709551616)(hy:0<=y/\y<18446744073709551616)(hc:0<=c/\c<18446744073709551616)(hK:K (.tuple #[U ((x*y+c)%18446744073709551616),U ((x*y+c)/18446744073709551616)]) h):aY prog J2 #[U x,U y,U c] h K:=by
 have d:0<=x*y/\x*y<=18446744073709551615*18446744073709551615:=⟨aQ hx.1 hy.1,dG (by omega) (by omega) hy.1 (by decide)⟩
 refine Ti _ _ _ ?_
 unfold Oz
 refine Kg hx hy ⟨_,_,rfl,?_⟩
 refine Es (by omega) hc (by omega) ⟨_,_,rfl,?_⟩
 rw [B9 (by omega) (by omega)]
 have a:(x*y%18446744073709551616+c+0)%18446744073709551616=(x*y+c)%18446744073709551616:=by omega
 have b:x*y/18446744073709551616+(x*y%18446744073709551616+c+0)/18446744073709551616=(x*y+c)/18446744073709551616:=by omega
 rw [a,b];exact hK
def B7l(a:Array UInt8):({ data:=a }:ByteArray)=bs a.toList:=by simp [bs]
def A9h:List UInt8:=[0,1,2,2,3,3,3,3,4,4,4,4,4,4,4,4,5,5,5,5,5,5,5,5,5,5,5,5,5,5,5,5]++aE 32 6++aE 64 7++aE 128 8
def A6l:∀ i,i<256->(A9h[i]?).map UInt8.toNat=some (I9 i):=by decide
def Yz{x s:Nat}(h:2^s<=x):I9 x=s+I9 (x/2^s):=by
 have a:0<2^s:=cY (by decide)
 have b:x/2^s≠0:=by
  have:=Nat.div_pos h a;omega
 have:=Vu (l:=x%2^s) (t:=x/2^s) (j:=s) (eF _ a) b
 rw [Nat.mod_add_div] at this
 exact this
def Xv{h:bJ}{K:VP}{x:Nat}(hx:x<18446744073709551616)(hK:K (I (I9 x)) h):aY prog Lf #[U x] h K:=by
 refine B2d _ ?_
 unfold B6g
 have p:∀ (y s:Nat),s<=64->dH (y:Int) (2^(min ((s:Int)).toNat 64))=((y/2^s:Nat):Int):=by
  intro y s u
  rw [aC,aI u,fB _ (aL (bG (by decide)))]
  simp
 refine ⟨fun l d=>∃ (y n:Nat),l=[U y,I n]/\d=h/\y<4294967296/\I9 x=n+I9 y/\n<=32,B4 (fun j=>?_) (fun j=>?_),?_⟩
 ·refine ⟨x/2^32,32,?_,rfl,by omega,Yz (by omega),by omega⟩
  rw [show (32:Int)=((32:Nat):Int) from rfl,p x 32 (by omega)]
 ·exact ⟨x,0,rfl,rfl,by omega,by omega,by omega⟩
 rintro i g d ⟨y,n,b,rfl,e,a,r⟩
 obtain ⟨rfl,rfl⟩:i=(y:Int)/\g=(n:Int):=by simpa using b
 refine ⟨fun l q=>∃ (y n:Nat),l=[U y,I n]/\q=d/\y<65536/\I9 x=n+I9 y/\n<=48,B4 (fun j=>?_) (fun j=>?_),?_⟩
 ·refine ⟨y/2^16,n+16,?_,rfl,by omega,by rw [a,Yz (x:=y) (s:=16) (by omega)];omega,by omega⟩
  rw [show (16:Int)=((16:Nat):Int) from rfl,p y 16 (by omega),B6 (by omega) (by omega)];rfl
 ·exact ⟨y,n,rfl,rfl,by omega,a,by omega⟩
 clear a e b
 rintro i g d ⟨y,n,b,rfl,e,a,r⟩
 obtain ⟨rfl,rfl⟩:i=(y:Int)/\g=(n:Int):=by simpa using b
 refine ⟨fun l q=>∃ (y n:Nat),l=[U y,I n]/\q=d/\y<256/\I9 x=n+I9 y/\n<=56,B4 (fun j=>?_) (fun j=>?_),?_⟩
 ·refine ⟨y/2^8,n+8,?_,rfl,by omega,by rw [a,Yz (x:=y) (s:=8) (by omega)];omega,by omega⟩
  rw [show (8:Int)=((8:Nat):Int) from rfl,p y 8 (by omega),B6 (by omega) (by omega)];rfl
 ·exact ⟨y,n,rfl,rfl,by omega,a,by omega⟩
 clear a e b
 rintro i g d ⟨y,n,b,rfl,e,a,r⟩
 obtain ⟨rfl,rfl⟩:i=(y:Int)/\g=(n:Int):=by simpa using b
 rw [Ut (by omega) (by omega),aC]
 have m:=A6l y e
 cases hc:A9h[y]? with
 | none=>rw [hc] at m;cases m
 | some c=>
  rw [hc] at m
  have o:c.toNat=I9 y:=by simpa using m
  refine ⟨c,⟨by omega,?_⟩,?_⟩
  ·try unfold A55
   rw [B7l,Ij];exact hc
  ·have w:I9 y<=8:=Ep (k:=8) (by omega)
   rw [o,B6 (n:=((I9 y:Nat):Int)) (by omega) (by omega),B6 (by omega) (by omega),<- eV,<- a]
   exact hK
def O0{h:bJ}{K:VP}{x:Nat}(hx:x<18446744073709551616)(hK:K (I ((64-I9 x:Nat):Int)) h):aY prog H7 #[U x] h K:=by
 refine Mh _ ?_
 unfold Ha
 refine Xv hx ⟨_,rfl,?_⟩
 have a:I9 x<=64:=Ep (k:=64) (by omega)
 rw [B6 (by omega) (by omega)]
 have:(64:Int)-((I9 x:Nat):Int)=((64-I9 x:Nat):Int):=by omega
 rw [this];exact hK
def A1n{a b:Int}{s:Nat}(ha:0<=a)(hb:0<=b/\b<2^s)(hab:a*2^s+b<18446744073709551616):bor .u64 (a*2^s) b=a*2^s+b:=by
 have d:0<(2:Int)^s:=bG (by decide)
 have g:0<=a*2^s:=aQ ha (by omega)
 rw [A41 (by omega) (by omega)]
 have e:(a*2^s).toNat=2^s*a.toNat:=by
  rw [Int.toNat_mul ha (by omega),eG,fH (by decide)];rfl
 have c:b.toNat<2^s:=by
  have:((2^s:Nat):Int)=(2:Int)^s:=by simp
  omega
 rw [e,A50 c,<- e];omega
def W5{s:Nat}(hs:s<=64):(2:Int)^s*2^(64-s)=18446744073709551616:=by
 rw [<- aW,show s+(64-s)=64 by omega];decide
def B2f{x:Int}{s:Nat}(hs:s<=64):dH x (2^(min s 64))=x/2^s:=by
 rw [aI hs];exact fB x (aL (bG (by decide)))
def Est.exact{B top u2 v1 v2 U V:Int}(e:Est B 1 top u2 0 v1 v2 0 U V){q:Int}(h:q*(v1*B+v2)<=top*B+u2):q*V<=U:=by
 have d:=e.hU
 have c:=e.hV
 have b:U=top*B+u2:=by rw [d];omega
 have a:V=v1*B+v2:=by rw [c];omega
 rw [b,a];exact h
section
variable {h:bJ} {K:VP}
def B05{T u2 v1 v2 X Y:Int}{hp:bJ}{J:Int->bJ->Prop}(es:Est 4294967296 1 T u2 0 v1 v2 0 X Y)(_hT:T<18446744073709551616)
 (hJ:∀ q,0<=q->q*Y<=X->X<(q+1)*Y->J q hp):
 ∃ (Inv:Int->Int->bJ->Prop) (mu:Int->Int->bJ->Nat),Inv (T/v1) (T%v1) hp/\
  ∀ q r hp1,Inv q r hp1->(q>=4294967296->Inv q r hp1)/\0<=q/\q<=4294967297/\0<=r/\r<4294967296/\hp1=hp/\
   (q<4294967296->¬ (q*v2>4294967296*r+u2)->J q hp1)/\
   ((q>=4294967296\/q*v2>4294967296*r+u2)->1<=q/\(r+v1>=4294967296->J (q-1) hp1)/\(r+v1<4294967296->Inv (q-1) (r+v1) hp1/\mu (q-1) (r+v1) hp1<mu q r hp1)):=by
 obtain ⟨L,G⟩:=es.first
 have o:=es.init
 have z:=es.V0
 have D:=es.U0
 have C:=es.v1r
 have p:=es.v2r
 have E:=es.u2r
 have g:=es.top0
 have s:0<=T/v1:=bM g (by omega)
 have l:=aK T v1
 have k:=aR T (show v1≠0 by omega)
 have B:=aJ T (show 0<v1 by omega)
 refine ⟨fun q r hp1=>hp1=hp/\0<=q/\q<=4294967297/\0<=r/\r<4294967296/\q*v1+r=T/\X<(q+1)*Y,fun q _ _=>q.toNat,⟨rfl,s,by omega,k,by omega,by rw [aP];exact l,o⟩,?_⟩
 rintro q r hp1 ⟨rfl,i,w,y,x,d,e⟩
 have key:q*(v1*4294967296+v2)=(T-r)*4294967296+q*v2:=by rw [<- d];grind
 refine ⟨fun _=>⟨rfl,i,w,y,x,d,e⟩,i,w,y,x,rfl,fun j H=>hJ q i (es.exact (by omega)) e,fun c=>?_⟩
 have n:X<q*Y:=by
  rcases c with j|j
  ·exact es.big j
  ·exact es.low i (by omega)
 have m:1<=q:=by
  by_cases A:1<=q
  ·exact A
  ·have:q=0:=by omega
   subst this;omega
 have a:X<(q-1+1)*Y:=by rw [Int.sub_add_cancel];exact n
 have b:(q-1)*v1+(r+v1)=T:=by grind
 refine ⟨m,fun F=>?_,fun F=>⟨⟨rfl,by omega,by omega,by omega,by omega,b,a⟩,by show (q-1).toNat<q.toNat;omega⟩⟩
 have u:(q-1)*(v1*4294967296+v2)=(T-(r+v1))*4294967296+(q-1)*v2:=by rw [<- b];grind
 have j:(q-1)*v2<=4294967296*v2:=aD (by omega) p.1
 exact hJ (q-1) (by omega) (es.exact (by omega)) a
def Qi{hi lo:Int}{y:Nat}(hhi:0<=hi/\hi<y)(hlo:0<=lo/\lo<18446744073709551616)(hy:y<18446744073709551616)
 (hK:K (.tuple #[U ((hi*18446744073709551616+lo)/y),U ((hi*18446744073709551616+lo)%y)]) h):aY prog El #[U hi,U lo,U y] h K:=by
 refine B2e _ _ _ ?_
 unfold B6h
 refine D9 (fun e=>absurd e (by omega)) (fun _=>?_)
 refine B4 (fun e=>absurd e (by omega)) (fun _=>?_)
 refine D9 (fun e=>?_) (fun a5=>?_)
 ·refine B4 (fun e=>absurd e (by omega)) (fun _=>?_)
  refine B4 (fun e=>absurd e (by omega)) (fun _=>?_)
  subst e
  rw [dQ,cO] at hK
  rw [bB hlo.1,bW hlo.1,B9 (bM hlo.1 (by omega)) (cJ (dO _ hlo.1) hlo.2)]
  exact hK
 refine O0 hy ⟨_,rfl,?_⟩
 have M:y≠0:=by omega
 obtain ⟨a2,a9⟩:=Bj M
 have az:I9 y<=64:=Ep (k:=64) (by omega)
 have bc:1<=I9 y:=by unfold I9;rw [iN M];omega
 obtain ⟨s,hs⟩:∃ s,s=64-I9 y:=⟨_,rfl⟩
 rw [<- hs]
 have av:s<64:=by omega
 have p:0<(2:Int)^s:=bG (by decide)
 have E:=W5 (s:=s) (by omega)
 have ac:0<(2:Int)^(64-s):=bG (by decide)
 have F:I9 y=64-s:=by omega
 have af:(y:Int)<2^(64-s):=by
  rw [<- F]
  have:((y:Nat):Int)<((2^I9 y:Nat):Int):=by omega
  simpa using this
 have ao:(2:Int)^(63-s)<=y:=by
  have:((2^(I9 y-1):Nat):Int)<=((y:Nat):Int):=by omega
  rw [show I9 y-1=63-s by omega] at this
  simpa using this
 have Z:(2:Int)^s*2^(63-s)=9223372036854775808:=by
  rw [<- aW,show s+(63-s)=63 by omega];decide
 have ap:B8 (s:Int)=(s:Int):=B9 (by omega) (by omega)
 have an:B8 ((64:Int)-s)=((64-s:Nat):Int):=by rw [B9 (by omega) (by omega)];omega
 have Q:(y:Int)*2^s<18446744073709551616:=by
  rw [<- E,aP];exact bX af p
 have au:9223372036854775808<=(y:Int)*2^s:=by
  rw [<- Z,aP (y:Int)];exact aG ao (by omega)
 have eY:B8 ((y:Int)*2^(min s 64))=(y:Int)*2^s:=by rw [aI (by omega),B9 (by omega) Q]
 have bb:hi*2^s+2^s<=(y:Int)*2^s:=by
  have:=aD (show hi+1<=(y:Int) by omega) (aL p)
  rw [Int.add_mul] at this;omega
 have X:0<=hi*2^s:=aQ hhi.1 (by omega)
 have ag:0<=lo/2^(64-s)/\lo/2^(64-s)<2^s:=by
  refine ⟨bM hlo.1 (by omega),bC ac ?_⟩
  rw [E];exact hlo.2
 have eT:bor .u64 (B8 (hi*2^(min s 64))) (dH lo (2^(min (64-s) 64)))=hi*2^s+lo/2^(64-s):=by
  rw [aI (show s<=64 by omega),B9 X (by omega),B2f (by omega),A1n hhi.1 ag (by omega)]
 have eL:B8 (lo*2^(min s 64))=lo*2^s%18446744073709551616:=by rw [aI (by omega),D8]
 have bd:0<=lo*2^s%18446744073709551616/\lo*2^s%18446744073709551616<18446744073709551616:=⟨aR _ (by decide),aJ _ (by decide)⟩
 have hN:(hi*18446744073709551616+lo)*2^s=(hi*2^s+lo/2^(64-s))*18446744073709551616+lo*2^s%18446744073709551616:=by
  have d1:lo*2^s/18446744073709551616=lo/2^(64-s):=by
   rw [<- E,aP lo,Int.mul_ediv_mul_of_pos _ _ p]
  have d2:=aK (lo*2^s) 18446744073709551616
  rw [d1] at d2
  grind
 generalize hTT:hi*2^s+lo/2^(64-s)=T at *
 generalize hLL:lo*2^s%18446744073709551616=L at *
 generalize hYY:(y:Int)*2^s=Y at *
 have x:0<=T/\T<Y:=by omega
 unfold A2j A2l A2i A2k
 simp only [ap,an,aC,eY,eT,eL,Tz]
 rw [As (by omega),As (by omega)]
 have e1:Est 4294967296 1 T (L/4294967296) 0 (Y/4294967296) (Y%4294967296) 0 (T*4294967296+L/4294967296) Y:=
  ⟨by decide,by decide,by omega,by omega,by omega,by omega,by omega,by omega,x.1,by omega,by omega⟩
 refine B4 (fun e=>absurd e (by omega)) (fun _=>?_)
 refine B4 (fun e=>absurd e (by omega)) (fun _=>?_)
 refine B4 (fun e=>absurd e (by omega)) (fun _=>?_)
 refine B4 (fun e=>absurd e (by omega)) (fun _=>?_)
 refine B4 (fun e=>absurd e (by omega)) (fun _=>?_)
 have bm:∀ {q w:Int},0<=q->q<=4294967296->0<=w->w<4294967296->0<=q*w/\q*w<18446744073709551616:=by
  intro q w a b c d
  refine ⟨aQ a c,?_⟩
  have:=dG b (show w<=4294967295 by omega) c (by decide)
  omega
 refine ⟨fun l hp=>∃ q,l=[U q]/\hp=h/\0<=q/\q*Y<=T*4294967296+L/4294967296/\T*4294967296+L/4294967296<(q+1)*Y,?_,?_⟩
 ·obtain ⟨Inv,mu,i0,st⟩:=B05 (hp:=h) (J:=fun q hp=>∃ j,[U q]=[U j]/\hp=h/\0<=j/\j*Y<=T*4294967296+L/4294967296/\T*4294967296+L/4294967296<(j+1)*Y) e1 (by omega) (fun q a b c=>⟨q,rfl,rfl,a,b,c⟩)
  refine ⟨fun l hp=>∃ q r,l=[U q,U r]/\Inv q r hp,fun l hp=>mu (iAt l 0) (iAt l 1) hp,⟨T/(Y/4294967296),T%(Y/4294967296),?_,i0⟩,?_⟩
  ·have dm:=aK T (Y/4294967296)
   have V:=bM x.1 (show 0<=Y/4294967296 by omega)
   have d1:T/(Y/4294967296)<=T:=dO _ x.1
   have d2:=aR T (show Y/4294967296≠0 by omega)
   rw [bB x.1,B9 (n:=T/(Y/4294967296)) V (by omega),aP (T/(Y/4294967296))]
   have d3:=aQ (show 0<=Y/4294967296 by omega) V
   rw [B9 (n:=Y/4294967296*(T/(Y/4294967296))) d3 (by omega),B9 (by omega) (by omega)]
   have:T-Y/4294967296*(T/(Y/4294967296))=T%(Y/4294967296):=by omega
   rw [this]
  rintro q r o ⟨j,r',hl,hI⟩
  obtain ⟨rfl,rfl⟩:q=j/\r=r':=by simpa using hl
  obtain ⟨_,g,i,r0,r1,rfl,ok,G⟩:=st q r o hI
  have N:=bm (q:=4294967296) (w:=r) (by omega) (by omega) r0 r1
  refine ⟨fun l hp=>l=[]/\hp=o/\(q>=4294967296\/q*(Y%4294967296)>4294967296*r+L/4294967296),B4 (fun O=>⟨rfl,rfl,.inl O⟩) (fun O=>?_),?_⟩
  ·have S:=bm (q:=q) (w:=Y%4294967296) g (by omega) (by omega) (by omega)
   rw [B9 S.1 S.2,B9 N.1 N.2,B9 (n:=4294967296*r+L/4294967296) (by omega) (by omega)]
   exact B4 (fun B=>⟨rfl,rfl,.inr B⟩) (fun B=>ok (by omega) B)
  ·rintro aa ⟨_,rfl,m⟩
   obtain ⟨g1,g2,g3⟩:=G m
   rw [B9 (n:=r+Y/4294967296) (by omega) (by omega),B9 (n:=q-1) (by omega) (by omega)]
   exact B4 (fun W=>g2 W) (fun W=>⟨⟨_,_,rfl,(g3 (by omega)).1⟩,(g3 (by omega)).2⟩)
 rintro i D ⟨ai,ah,rfl,aj,a3,ba⟩
 obtain rfl:i=ai:=by simpa using ah
 have ay:i<4294967296:=by
  by_cases A:i<4294967296
  ·exact A
  ·have:=aD (show 4294967296<=i by omega) (show 0<=Y by omega);omega
 have a6:(i+1)*Y=i*Y+Y:=by grind
 have ar:0<=i*Y:=aQ aj (by omega)
 have ak:B8 (B8 (B8 (T*4294967296)+L/4294967296)-B8 (i*Y))=T*4294967296+L/4294967296-i*Y:=by
  simp only [D8];omega
 simp only [ak]
 generalize hRR:T*4294967296+L/4294967296-i*Y=R at *
 have u:0<=R/\R<Y:=by omega
 refine B4 (fun e=>absurd e (by omega)) (fun _=>?_)
 have e2:Est 4294967296 1 R (L%4294967296) 0 (Y/4294967296) (Y%4294967296) 0 (R*4294967296+L%4294967296) Y:=
  ⟨by decide,by decide,by omega,by omega,by omega,by omega,by omega,by omega,u.1,by omega,by omega⟩
 refine ⟨fun l hp=>∃ q,l=[U q]/\hp=D/\0<=q/\q*Y<=R*4294967296+L%4294967296/\R*4294967296+L%4294967296<(q+1)*Y,?_,?_⟩
 ·obtain ⟨Inv,mu,i0,st⟩:=B05 (hp:=D) (J:=fun q hp=>∃ j,[U q]=[U j]/\hp=D/\0<=j/\j*Y<=R*4294967296+L%4294967296/\R*4294967296+L%4294967296<(j+1)*Y) e2 (by omega) (fun q a b c=>⟨q,rfl,rfl,a,b,c⟩)
  refine ⟨fun l hp=>∃ q r,l=[U r,U q]/\Inv q r hp,fun l hp=>mu (iAt l 1) (iAt l 0) hp,⟨R/(Y/4294967296),R%(Y/4294967296),?_,i0⟩,?_⟩
  ·have dm:=aK R (Y/4294967296)
   have V:=bM u.1 (show 0<=Y/4294967296 by omega)
   have d1:R/(Y/4294967296)<=R:=dO _ u.1
   have d2:=aR R (show Y/4294967296≠0 by omega)
   rw [bB u.1,B9 (n:=R/(Y/4294967296)) V (by omega),aP (R/(Y/4294967296))]
   have d3:=aQ (show 0<=Y/4294967296 by omega) V
   rw [B9 (n:=Y/4294967296*(R/(Y/4294967296))) d3 (by omega),B9 (by omega) (by omega)]
   have:R-Y/4294967296*(R/(Y/4294967296))=R%(Y/4294967296):=by omega
   rw [this]
  rintro r q o ⟨j,r',hl,hI⟩
  obtain ⟨rfl,rfl⟩:r=r'/\q=j:=by simpa using hl
  obtain ⟨_,g,i,r0,r1,rfl,ok,G⟩:=st q r o hI
  have N:=bm (q:=4294967296) (w:=r) (by omega) (by omega) r0 r1
  refine ⟨fun l hp=>l=[]/\hp=o/\(q>=4294967296\/q*(Y%4294967296)>4294967296*r+L%4294967296),B4 (fun O=>⟨rfl,rfl,.inl O⟩) (fun O=>?_),?_⟩
  ·have S:=bm (q:=q) (w:=Y%4294967296) g (by omega) (by omega) (by omega)
   rw [B9 S.1 S.2,B9 N.1 N.2,B9 (n:=4294967296*r+L%4294967296) (by omega) (by omega)]
   exact B4 (fun B=>⟨rfl,rfl,.inr B⟩) (fun B=>ok (by omega) B)
  ·rintro aa ⟨_,rfl,m⟩
   obtain ⟨g1,g2,g3⟩:=G m
   rw [B9 (n:=r+Y/4294967296) (by omega) (by omega),B9 (n:=q-1) (by omega) (by omega)]
   exact B4 (fun W=>g2 W) (fun W=>⟨⟨_,_,rfl,(g3 (by omega)).1⟩,(g3 (by omega)).2⟩)
 rintro g a8 ⟨al,ae,rfl,am,a4,a1⟩
 obtain rfl:g=al:=by simpa using ae
 refine B4 (fun e=>absurd e (by omega)) (fun _=>?_)
 have aw:g<4294967296:=by
  by_cases A:g<4294967296
  ·exact A
  ·have:=aD (show 4294967296<=g by omega) (show 0<=Y by omega);omega
 have a7:(g+1)*Y=g*Y+Y:=by grind
 have ax:0<=g*Y:=aQ am (by omega)
 have ad:B8 (B8 (B8 (R*4294967296)+L%4294967296)-B8 (g*Y))=R*4294967296+L%4294967296-g*Y:=by
  simp only [D8];omega
 rw [ad,B9 (n:=i*4294967296) (by omega) (by omega),B9 (n:=i*4294967296+g) (by omega) (by omega),B2f (by omega)]
 have a0:(hi*18446744073709551616+lo)*2^s=(i*4294967296+g)*(y*2^s)+(R*4294967296+L%4294967296-g*Y):=by
  rw [hN,hYY]
  have:T*18446744073709551616+L=(T*4294967296+L/4294967296)*4294967296+L%4294967296:=by omega
  rw [this]
  have:T*4294967296+L/4294967296=R+i*Y:=by omega
  rw [this];grind
 have C:R*4294967296+L%4294967296-g*Y=(hi*18446744073709551616+lo-(i*4294967296+g)*y)*2^s:=by grind
 rw [C,eD _ (show (2:Int)^s≠0 by omega)]
 have ab:0<=hi*18446744073709551616+lo-(i*4294967296+g)*y:=by
  by_cases A:0<=hi*18446744073709551616+lo-(i*4294967296+g)*y
  ·exact A
  ·have:=aD (show hi*18446744073709551616+lo-(i*4294967296+g)*y <= -1 by omega) (aL p);omega
 have aq:hi*18446744073709551616+lo-(i*4294967296+g)*y<y:=by
  by_cases A:hi*18446744073709551616+lo-(i*4294967296+g)*y<y
  ·exact A
  ·have:=aD (show (y:Int)<=hi*18446744073709551616+lo-(i*4294967296+g)*y by omega) (aL p);omega
 have z:(hi*18446744073709551616+lo)/y=i*4294967296+g:=by
  have:hi*18446744073709551616+lo=(hi*18446744073709551616+lo-(i*4294967296+g)*y)+(i*4294967296+g)*y:=by omega
  rw [this,dS _ _ (by omega),bK ab aq,cO]
 have H:(hi*18446744073709551616+lo)%y=hi*18446744073709551616+lo-(i*4294967296+g)*y:=by
  rw [Int.emod_def,z,aP (y:Int)]
 rw [z,H] at hK
 exact hK
end
def L6{xs:List Int}(d:Dig b64 xs)(i:Nat):0<=xs.getD i 0/\xs.getD i 0<18446744073709551616:=d.getD (by decide) i
def Dw(c:Int):0<=c%18446744073709551616/\c%18446744073709551616<b64:=⟨aR _ (by decide),aJ _ (by decide)⟩
section
variable {h g:bJ} {K:VP} {A B:Option bN} {ac bc:Nat}
def Cp{xs:List Int}(s:SlI .u64 h A xs)(hc:xs.length<=ac)(hl:xs.length<=10000000000)(hK:∀ m,m<=xs.length->Norm (xs.take m)->val b64 (xs.take m)=val b64 xs->K (.slice A m ac) h):aY prog H3 #[.slice A xs.length ac] h K:=by
 refine B49 _ _ _ ?_
 unfold C01
 refine ⟨fun l k=>∃ m:Nat,l=[I m]/\m<=xs.length/\k=h/\val b64 (xs.take m)=val b64 xs,fun l _=>(iAt l 0).toNat,⟨xs.length,rfl,bD _,rfl,by rw [aV]⟩,?_⟩
 rintro p o ⟨m,a,g,rfl,d⟩
 obtain rfl:=sI1 a
 refine B4 (fun n=>?_) (fun n=>?_)
 ·obtain ⟨j,rfl⟩:∃ j,m=j+1:=⟨m-1,by omega⟩
  have e:B5 (((j+1:Nat):Int)-1)=(j:Int):=by rw [B6 (by omega) (by omega)];omega
  rw [e]
  have c:=K8 b64 (xs:=xs) (i:=j) (by omega)
  refine s.load rfl (by omega) (by omega) ?_
  rw [aC]
  refine D9 (fun b=>?_) (fun b=>?_)
  ·exact ⟨⟨j,rfl,by omega,rfl,by rw [b] at c;omega⟩,by simp only [iAt,aH];omega⟩
  ·refine ⟨⟨by omega,by omega⟩,?_⟩
   rw [H1,aC,bV,bV]
   refine hK (j+1) g ?_ d
   rw [Fo (by omega)];exact A0z b
 ·have:m=0:=by omega
  subst this
  refine ⟨⟨by omega,by omega⟩,?_⟩
  rw [H1,aC,bV,bV]
  exact hK 0 (by omega) Norm.nil d
def M0{xs:List Int}(s:SlI .u64 h A xs)(hd:Dig b64 xs)(hc:xs.length<=ac)(hl:xs.length<=10000000000)(hK:∀ m,m<=xs.length->Mw h A m (val b64 xs)->K (.slice A m ac) h):aY prog H3 #[.slice A xs.length ac] h K:=by
 refine Cp s hc hl ?_
 intro m a b d
 refine hK m a ⟨xs.take m,by simp;omega,?_,hd.take m,b,d⟩
 have:=s.cut (c:=ac) (l:=0) (m:=m) (by omega) a hc
 simpa [H1] using this
def Ac{w:Int}(hw:0<=w/\w<18446744073709551616)(hK:∀ A m c h',h.le h'->m<=c->Mw h' A m w->K (.slice A m c) h'):aY prog U2 #[U w] h K:=by
 refine A21 _ ?_
 unfold A22
 refine D9 (fun e=>?_) (fun e=>?_)
 ·subst e;exact hK none 0 0 h (B3 h) (bD _) Mag.zero
 ·refine Y4 O8 rfl ?_
  intro b a
  exact ⟨_,_,_,rfl,hK _ _ _ _ (Heap.le_put _ a) (bD _) ⟨[w],rfl,SlI.new h b [w] C0 _,Dig.one hw,by simpa [Norm] using e,S9 _ _⟩⟩
def G8{x y:Int}{an bn:Nat}(ma:Mw h A an x)(mb:Mw h B bn y)(hl:an<=10000000000)(hK:K (I (Cj x y)) h):aY prog F3 #[.slice A an ac,.slice B bn bc] h K:=by
 obtain ⟨a,rfl,s,m,w,rfl⟩:=ma
 obtain ⟨b,rfl,r,g,D,rfl⟩:=mb
 refine Pq _ _ _ _ _ _ ?_
 unfold Lv
 refine N8 (fun C=>?_) (fun C=>?_)
 ·refine Ss ⟨_,rfl,?_⟩
  have:Cj (a.length:Int) (b.length:Int)=Cj (val b64 a) (val b64 b):=by
   unfold Cj
   by_cases o:a.length<b.length
   ·have:=Hh (by decide) m g D o
    rw [iP (by omega),iP this]
   ·have:=Hh (by decide) g m w (by omega)
    rw [iN (by omega),iP (by omega),iN (by omega),iP (by omega)]
  rw [this];exact hK
 ·have c:a.length=b.length:=by omega
  refine ⟨fun l z=>∃ k:Nat,l=[I ((k:Int)-1)]/\k<=a.length/\z=h/\a.drop k=b.drop k,fun l _=>(iAt l 0+1).toNat,⟨a.length,?_,bD _,rfl,?_⟩,?_⟩
  ·rw [B6 (by omega) (by omega)]
  ·rw [eP,c,eP]
  rintro i F ⟨k,n,E,rfl,d⟩
  obtain rfl:i=(k:Int)-1:=by simpa using n
  refine B4 (fun o=>?_) (fun o=>?_)
  ·obtain ⟨j,rfl⟩:∃ j,k=j+1:=⟨k-1,by omega⟩
   have e:((j+1:Nat):Int)-1=(j:Int):=by omega
   rw [e]
   refine s.load rfl (by omega) (by omega) ?_
   refine r.load rfl (by omega) (by omega) ?_
   rw [aC]
   refine N8 (fun u=>?_) (fun u=>?_)
   ·refine s.load rfl (by omega) (by omega) ?_
    refine r.load rfl (by omega) (by omega) ?_
    rw [aC]
    refine B08 ⟨_,rfl,B3 _,?_⟩
    have:Cj (a.getD j 0) (b.getD j 0)=Cj (val b64 a) (val b64 b):=by
     unfold Cj
     by_cases q:a.getD j 0<b.getD j 0
     ·have:=Hg (by decide) m g (i:=j) (by omega) (by omega) d q
      rw [iP q,iP this]
     ·have:=Hg (by decide) g m (i:=j) (by omega) (by omega) d.symm (by omega)
      rw [iN q,iP (by omega),iN (by omega),iP (by omega)]
    rw [this];exact hK
   ·rw [B6 (by omega) (by omega)]
    refine ⟨⟨j,rfl,by omega,rfl,?_⟩,by simp only [iAt,aH];omega⟩
    rw [fC (show j<a.length by omega),fC (show j<b.length by omega),d]
    congr 1
    simpa [cK,show j<a.length by omega,show j<b.length by omega] using u
  ·have p:k=0:=by omega
   subst p
   simp at d
   subst d
   have:Cj (val b64 a) (val b64 a)=0:=by unfold Cj;rw [iN (by omega),iN (by omega)]
   rw [this] at hK;exact hK
def Dg{xs:List Int}{an:Nat}(s:SlI .u64 h A xs)(hn:an=xs.length)(hl:xs.length<=10000000000)(hK:∀ A' c' h' g',h.le g'->Priv h' g' C0 1 A' xs.length c' (xs.map (bH .u64))->K (.slice A' xs.length c') h'):aY prog Eb #[.slice A an ac] h K:=by
 subst hn
 refine B0u _ _ _ ?_
 unfold B5o
 refine Br.of (fun e=>?_) (fun e=>?_)
 ·have l:A=none:=by simpa using e
  have n:xs=[]:=by
   rcases s with i|⟨a,g,_⟩
   ·simpa using i
   ·rw [l] at g;cases g
  subst n
  exact hK none 0 h h (B3 h) (by simpa using Priv.nil _ _ _ _)
 ·refine Rf O8 ?_
  intro b m
  refine ⟨_,_,_,rfl,?_⟩
  have c:=Heap.le_put (h:=h) (b:=b) (.cells #[] C0) m
  refine Ll O8 (Priv.nil _ _ _ _) (ys:=xs.map (bH .u64)) (by simp) (SlI.mono c s) (fun v k=>?_) (by omega) (by omega) ?_
  ·obtain ⟨a,_,rfl⟩:=List.mem_map.1 k;rfl
  ·intro A' c' h' g' j d
   simp only [fJ,cA] at d ⊢
   exact ⟨_,_,_,rfl,hK _ _ _ _ (A0 c j) d⟩
variable {b:Nat} {e:cH} {pre post:List dZ}
def Gt{xs ys:List Int}{an bn:Nat}(w:Win .u64 h g b e A pre xs post)(hn:an=xs.length)(sy:SlI .u64 g B ys)(hm:bn=ys.length)(dx:Dig b64 xs)(dy:Dig b64 ys)(hle:ys.length<=xs.length)(hfit:val b64 xs+val b64 ys<b64^xs.length)(hl:xs.length<=10000000000)
 (hK:∀ xs' h',xs'.length=xs.length->Dig b64 xs'->val b64 xs'=val b64 xs+val b64 ys->Win .u64 h' g b e A pre xs' post->K (.tuple #[]) h'):aY prog Q7 #[.slice A an ac,.slice B bn bc] h K:=by
 subst hn hm
 refine A49 _ _ _ _ _ _ ?_
 unfold A5s
 refine ⟨fun l x=>∃ (k:Nat) (c:Int) (zs:List Int),l=[U c,I k]/\k<=ys.length/\zs.length=xs.length/\Dig b64 zs/\(0<=c/\c<=1)/\Win .u64 x g b e A pre zs post/\zs.drop k=xs.drop k/\val b64 (zs.take k)+c*b64^k=val b64 (xs.take k)+val b64 (ys.take k),fun l _=>ys.length-(iAt l 1).toNat,⟨0,0,xs,rfl,by omega,rfl,dx,by omega,w,rfl,by simp [val]⟩,?_⟩
 rintro c i x ⟨k,L,zs,u,M,d,q,y,o,j,z⟩
 obtain ⟨rfl,rfl⟩:c=L/\i=(k:Int):=by simpa using u
 refine B4 (fun D=>?_) (fun D=>?_)
 ·have Q:=L6 dy k
  have E:=L6 q k
  have s:=E2 j
  have J:=C2 b64 xs k
  have O:=C2 b64 ys k
  refine (sy.mono o.le).load rfl (by omega) (by omega) ?_
  refine o.sl.load d.symm (by omega) (by omega) ?_
  simp only [aC]
  refine Es E Q y ⟨_,_,rfl,?_⟩
  obtain ⟨a,C,_⟩:=SlV.at o.sl (i:=k) (by simp;omega)
  refine ⟨a,C,by omega,by omega,o.storeN F0 C (by omega) ?_⟩
  intro h' G
  rw [B6 (n:=(k:Int)+1) (by omega) (by omega)]
  refine ⟨⟨k+1,_,_,rfl,by omega,by simpa using d,q.set (Dw _),by omega,G,?_,?_⟩,by simp only [iAt,aH,aO];omega⟩
  ·rw [D3 (by omega)];exact D7 j
  ·rw [C6 (by omega),E5,aF,aI (by omega),aZ,Ao,J,O,<- s]
   grind
 ·have r:k=ys.length:=by omega
  subst r
  rw [aV] at z
  refine ⟨fun l x=>∃ (k:Nat) (c:Int) (zs:List Int),l=[U c,I k]/\ys.length<=k/\k<=xs.length/\zs.length=xs.length/\Dig b64 zs/\(0<=c/\c<=1)/\Win .u64 x g b e A pre zs post/\zs.drop k=xs.drop k/\val b64 (zs.take k)+c*b64^k=val b64 (xs.take k)+val b64 ys,fun l _=>xs.length-(iAt l 1).toNat,⟨ys.length,c,zs,rfl,by omega,by omega,d,q,y,o,j,z⟩,?_⟩
  clear z j o q d y M D
  rintro c i x ⟨k,L,zs,u,R,M,d,q,y,o,j,z⟩
  obtain ⟨rfl,rfl⟩:c=L/\i=(k:Int):=by simpa using u
  have p:=E7 b64 zs (i:=k) (by omega)
  have m:=E7 b64 xs (i:=k) (by omega)
  refine N8 (fun N=>B4 (fun D=>?_) (fun D=>?_)) (fun N=>?_)
  ·have E:=L6 q k
   have s:=E2 j
   have J:=C2 b64 xs k
   refine o.sl.load d.symm (by omega) (by omega) ?_
   simp only [aC]
   refine Es E (by omega) y ⟨_,_,rfl,?_⟩
   obtain ⟨a,C,_⟩:=SlV.at o.sl (i:=k) (by simp;omega)
   refine ⟨a,C,by omega,by omega,o.storeN F0 C (by omega) ?_⟩
   intro h' G
   rw [B6 (n:=(k:Int)+1) (by omega) (by omega)]
   refine ⟨⟨k+1,_,_,rfl,by omega,by omega,by simpa using d,q.set (Dw _),by omega,G,?_,?_⟩,by simp only [iAt,aH,aO];omega⟩
   ·rw [D3 (by omega)];exact D7 j
   ·rw [C6 (by omega),E5,aF,aI (by omega),aZ,Ao,J,<- s]
    grind
  ·exfalso
   have r:k=xs.length:=by omega
   subst r
   have H:c=1:=by omega
   subst H
   rw [aV] at z
   have:=C5 (by decide) (q.take xs.length)
   omega
  ·have F:c=0:=by omega
   subst F
   refine hK zs x d q ?_ o
   rw [p,m,j];omega
def Mo{xs ys:List Int}{an bn:Nat}(w:Win .u64 h g b e A pre xs post)(hn:an=xs.length)(sy:SlI .u64 g B ys)(hm:bn=ys.length)(dx:Dig b64 xs)(dy:Dig b64 ys)(hle:ys.length<=xs.length)(hfit:val b64 ys<=val b64 xs)(hl:xs.length<=10000000000)
 (hK:∀ xs' h',xs'.length=xs.length->Dig b64 xs'->val b64 xs'=val b64 xs-val b64 ys->Win .u64 h' g b e A pre xs' post->K (.tuple #[]) h'):aY prog Bb #[.slice A an ac,.slice B bn bc] h K:=by
 subst hn hm
 refine Pk _ _ _ _ _ _ ?_
 unfold Ln
 have key:∀ {z y c:Int},(0<=z/\z<18446744073709551616)->(0<=y/\y<18446744073709551616)->(0<=c/\c<=1)->(z-y-c)%18446744073709551616=z-y-c+18446744073709551616*(if z-y-c<0 then 1 else 0):=by
  intro z y c V W r;split<;>omega
 refine ⟨fun l D=>∃ (k:Nat) (c:Int) (zs:List Int),l=[U c,I k]/\k<=ys.length/\zs.length=xs.length/\Dig b64 zs/\(0<=c/\c<=1)/\Win .u64 D g b e A pre zs post/\zs.drop k=xs.drop k/\val b64 (zs.take k)=val b64 (xs.take k)-val b64 (ys.take k)+c*b64^k,fun l _=>ys.length-(iAt l 1).toNat,⟨0,0,xs,rfl,by omega,rfl,dx,by omega,w,rfl,by simp [val]⟩,?_⟩
 rintro c i D ⟨k,N,zs,C,Q,d,q,r,o,j,s⟩
 obtain ⟨rfl,rfl⟩:c=N/\i=(k:Int):=by simpa using C
 refine B4 (fun G=>?_) (fun G=>?_)
 ·have O:=L6 dy k
  have E:=L6 q k
  have x:=E2 j
  have M:=C2 b64 xs k
  have S:=C2 b64 ys k
  refine (sy.mono o.le).load rfl (by omega) (by omega) ?_
  refine o.sl.load d.symm (by omega) (by omega) ?_
  simp only [aC]
  refine Dr E O r ⟨_,_,rfl,?_⟩
  obtain ⟨a,F,_⟩:=SlV.at o.sl (i:=k) (by simp;omega)
  refine ⟨a,F,by omega,by omega,o.storeN F0 F (by omega) ?_⟩
  intro h' J
  rw [B6 (n:=(k:Int)+1) (by omega) (by omega)]
  refine ⟨⟨k+1,_,_,rfl,by omega,by simpa using d,q.set (Dw _),by split<;>omega,J,?_,?_⟩,by simp only [iAt,aH,aO];omega⟩
  ·rw [D3 (by omega)];exact D7 j
  ·rw [C6 (by omega),E5,aF,aI (by omega),aZ,M,S,<- x,s,key E O r]
   grind
 ·have u:k=ys.length:=by omega
  subst u
  rw [aV] at s
  refine ⟨fun l D=>∃ (k:Nat) (c:Int) (zs:List Int),l=[U c,I k]/\ys.length<=k/\k<=xs.length/\zs.length=xs.length/\Dig b64 zs/\(0<=c/\c<=1)/\Win .u64 D g b e A pre zs post/\zs.drop k=xs.drop k/\val b64 (zs.take k)=val b64 (xs.take k)-val b64 ys+c*b64^k,fun l _=>xs.length-(iAt l 1).toNat,⟨ys.length,c,zs,rfl,by omega,by omega,d,q,r,o,j,s⟩,?_⟩
  clear s j o q d r Q G
  rintro c i D ⟨k,N,zs,C,T,Q,d,q,r,o,j,s⟩
  obtain ⟨rfl,rfl⟩:c=N/\i=(k:Int):=by simpa using C
  have p:=E7 b64 zs (i:=k) (by omega)
  have m:=E7 b64 xs (i:=k) (by omega)
  refine N8 (fun R=>B4 (fun G=>?_) (fun G=>?_)) (fun R=>?_)
  ·have E:=L6 q k
   have x:=E2 j
   have M:=C2 b64 xs k
   refine o.sl.load d.symm (by omega) (by omega) ?_
   simp only [aC]
   refine Dr E (by omega) r ⟨_,_,rfl,?_⟩
   obtain ⟨a,F,_⟩:=SlV.at o.sl (i:=k) (by simp;omega)
   refine ⟨a,F,by omega,by omega,o.storeN F0 F (by omega) ?_⟩
   intro h' J
   rw [B6 (n:=(k:Int)+1) (by omega) (by omega)]
   refine ⟨⟨k+1,_,_,rfl,by omega,by omega,by simpa using d,q.set (Dw _),by split<;>omega,J,?_,?_⟩,by simp only [iAt,aH,aO];omega⟩
   ·rw [D3 (by omega)];exact D7 j
   ·rw [C6 (by omega),E5,aF,aI (by omega),aZ,M,<- x,s,key E (y:=0) (by omega) r]
    grind
  ·exfalso
   have u:k=xs.length:=by omega
   subst u
   have L:c=1:=by omega
   subst L
   rw [aV] at s
   have:=I5 (by decide) (q.take xs.length)
   rw [aF,aI (by omega)] at this
   omega
  ·have H:c=0:=by omega
   subst H
   refine hK zs D d q ?_ o
   rw [p,m,j];omega
def Za{x y:Int}{an bn:Nat}(ma:Mw h A an x)(mb:Mw h B bn y)(hab:bn<=an)(hl:an<=4000000000)(hb0:bn≠0)(hK:∀ A' m c' h',h.le h'->m<=c'->Mw h' A' m (x+y)->K (.slice A' m c') h'):
 wpH prog (Instr.makeSlice Bn (I (B5 ((an:Int)+1))) (I (B5 ((an:Int)+1)))) (fun v hp1=>∃ (t20A:Option bN) (t20n:Nat) (t20c:Nat),v= .slice t20A t20n t20c/\∀ ty,wpH prog (dL #[Bn,Bn] ty #[.slice t20A t20n t20c,.slice A an ac]) (fun v1 hp2=>∃ (t23:Int),v1=I t23/\aY prog Q7 #[.slice t20A t20n t20c,.slice B bn bc] hp2 (fun r hp3=>r= .tuple #[]/\aY prog H3 #[.slice t20A t20n t20c] hp3 (fun r1 hp4=>∃ (t28A:Option bN) (t28n:Nat) (t28c:Nat),r1= .slice t28A t28n t28c/\K (.slice t28A t28n t28c) hp4))) hp1) h:=by
 obtain ⟨a,rfl,F,o,J,rfl⟩:=ma
 obtain ⟨O,rfl,C,l,N,rfl⟩:=mb
 have u:B5 ((a.length:Int)+1)=((a.length+1:Nat):Int):=by rw [B6 (by omega) (by omega)];omega
 rw [u]
 refine I3 O8 (by omega) (by omega) (by omega) ?_
 intro b G
 rw [aC]
 refine ⟨_,_,_,rfl,fun ty=>?_⟩
 have p:=Win.blk .u64 C0 G (aE (a.length+1) 0)
 refine Eo O8 p (by simp) (SlI.mono p.le F) rfl (by simp) ?_
 intro L s
 refine ⟨_,rfl,?_⟩
 have c:(aE (a.length+1) (0:Int)).drop a.length=[0]:=by rw [bA];simp [cG]
 rw [c] at s
 have d:val b64 (a++[0])=val b64 a:=by rw [E5];omega
 have z:=I5 (by decide) o
 have H:=I5 (by decide) l
 have D:=D5 (B:=b64) (by decide) hab
 have k:b64^(a.length+1)=b64^a.length*18446744073709551616:=aZ _ _
 have w:=D6 (B:=b64) (by decide) a.length
 refine Gt s (by simp) C rfl (o.append (Dig.one (by decide))) l (by simp;omega) ?_ (by simp;omega) ?_
 ·rw [d,aN,List.length_singleton,k];omega
 intro zs M i g j q
 refine ⟨rfl,?_⟩
 have e:zs.length=a.length+1:=by rw [i];simp
 rw [<- e]
 refine M0 q.sl g (by omega) (by omega) ?_
 intro m E n
 rw [j,d] at n
 exact ⟨_,_,_,rfl,hK _ _ _ _ q.le E n⟩
def O4{x y:Int}{an bn:Nat}(ma:Mw h A an x)(mb:Mw h B bn y)(ha:an<=ac)(hb:bn<=bc)(hl:an<=4000000000)(hl2:bn<=4000000000)(hK:∀ A' m c' h',h.le h'->m<=c'->Mw h' A' m (x+y)->K (.slice A' m c') h'):aY prog L3 #[.slice A an ac,.slice B bn bc] h K:=by
 refine A25 _ _ _ _ _ _ ?_
 unfold A26
 refine ⟨fun l h'=>h'=h/\∃ (A1 B1:Option bN) (c d c1 c2:Nat) (p e:Int),l=[.slice A1 c c1,.slice B1 d c2]/\Mw h A1 c p/\Mw h B1 d e/\d<=c/\c<=4000000000/\c<=c1/\p+e=x+y,B4 (fun z=>?_) (fun z=>?_),?_⟩
 ·exact ⟨rfl,_,_,_,_,_,_,y,x,rfl,mb,ma,by omega,hl2,hb,dT _ _⟩
 ·exact ⟨rfl,_,_,_,_,_,_,x,y,rfl,ma,mb,by omega,hl,ha,rfl⟩
 ·rintro A1 c c1 B1 d c2 D ⟨rfl,A1',B1',i,b,g,a,p,e,o,q,r,C,n,j,k⟩
  obtain ⟨⟨rfl,rfl,rfl⟩,rfl,rfl,rfl⟩:(A1=A1'/\c=i/\c1=g)/\B1=B1'/\d=b/\c2=a:=by simpa using o
  rw [<- k] at hK
  refine D9 (fun s=>?_) (fun s=>?_)
  ·have:=(r.len_zero (by decide)).2 (by omega)
   subst this
   rw [eO] at hK
   exact hK _ _ _ _ (B3 _) j q
  ·refine He _ (Za (ac:=c1) (bc:=c2) q r C n (by omega) hK) ?_
   rintro v h' ⟨A2,b,a,u,w⟩
   exact ⟨A2,b,a,u,w _⟩
def G0{x y:Int}{an bn:Nat}(ma:Mw h A an x)(mb:Mw h B bn y)(ha:an<=ac)(hl:an<=4000000000)(hxy:y<=x)(hK:∀ A' m c' h',h.le h'->m<=c'->Mw h' A' m (x-y)->K (.slice A' m c') h'):aY prog F5 #[.slice A an ac,.slice B bn bc] h K:=by
 have a:bn<=an:=mb.len_le (by decide) (cJ hxy (ma.lt (by decide)))
 refine Nt _ _ _ _ _ _ ?_
 unfold Il
 refine D9 (fun n=>?_) (fun n=>?_)
 ·have:=(mb.len_zero (by decide)).2 (by omega)
  subst this
  rw [Int.sub_zero] at hK
  exact hK _ _ _ _ (B3 _) ha ma
 ·obtain ⟨w,rfl,r,p,u,rfl⟩:=ma
  obtain ⟨G,rfl,q,o,E,rfl⟩:=mb
  refine Dg r rfl (by omega) ?_
  intro A1 c1 z F k g
  refine ⟨_,_,_,rfl,?_⟩
  obtain ⟨b,i,s⟩:=g.win (by rintro rfl;rw [List.length_nil] at a;omega)
  refine Mo s rfl (q.mono k) rfl p o a hxy (by omega) ?_
  intro zs C d c e l
  refine ⟨rfl,?_⟩
  rw [<- d]
  refine M0 l.sl c (by have:=g.2.1;omega) (by omega) ?_
  intro m D j
  rw [e] at j
  exact ⟨_,_,_,rfl,hK _ _ _ _ (A0 k l.le) (by have:=g.2.1;omega) j⟩
def Ta{zs xs:List Int}{an bn:Nat}{wd:Int}(w:Win .u64 h g b e A pre zs post)(hn:an=zs.length)(sx:SlI .u64 g B xs)(hm:bn=xs.length)(dz:Dig b64 zs)(dx:Dig b64 xs)(hle:zs.length=xs.length)(hw:0<=wd/\wd<18446744073709551616)(hl:xs.length<=10000000000)
 (hK:∀ zs' c h',zs'.length=zs.length->Dig b64 zs'->(0<=c/\c<18446744073709551616)->val b64 zs'+c*b64^zs.length=val b64 zs+val b64 xs*wd->Win .u64 h' g b e A pre zs' post->K (U c) h'):aY prog Ec #[.slice A an ac,.slice B bn bc,U wd] h K:=by
 subst hn hm
 refine Ul _ _ _ _ _ _ _ ?_
 unfold Tm
 refine ⟨fun l r=>∃ (k:Nat) (c:Int) (d:List Int),l=[U c,I k]/\k<=xs.length/\d.length=zs.length/\Dig b64 d/\(0<=c/\c<18446744073709551616)/\Win .u64 r g b e A pre d post/\d.drop k=zs.drop k/\val b64 (d.take k)+c*b64^k=val b64 (zs.take k)+val b64 (xs.take k)*wd,fun l _=>xs.length-(iAt l 1).toNat,⟨0,0,zs,rfl,by omega,rfl,dz,by omega,w,rfl,by simp [val]⟩,?_⟩
 rintro c i r ⟨k,J,d,u,L,j,s,x,o,m,y⟩
 obtain ⟨rfl,rfl⟩:c=J/\i=(k:Int):=by simpa using u
 refine B4 (fun E=>?_) (fun E=>?_)
 ·have z:=L6 dx k
  have D:=L6 s k
  have q:=E2 m
  have H:=C2 b64 xs k
  have G:=C2 b64 zs k
  have hm:0<=xs.getD k 0*wd/\xs.getD k 0*wd<=18446744073709551615*18446744073709551615:=⟨aQ z.1 hw.1,dG (by omega) (by omega) hw.1 (by decide)⟩
  refine (sx.mono o.le).load rfl (by omega) (by omega) ?_
  rw [aC]
  refine Kg z hw ⟨_,_,rfl,?_⟩
  generalize hmm:xs.getD k 0*wd=mm at *
  refine Es (by omega) x (by omega) ⟨_,_,rfl,?_⟩
  refine o.sl.load j.symm (by omega) (by omega) ?_
  rw [aC]
  refine Es D (by omega) (by omega) ⟨_,_,rfl,?_⟩
  obtain ⟨a,C,_⟩:=SlV.at o.sl (i:=k) (by simp;omega)
  refine ⟨a,C,by omega,by omega,o.storeN F0 C (by omega) ?_⟩
  intro h' F
  rw [B6 (n:=(k:Int)+1) (by omega) (by omega)]
  rw [B9 (n:=mm/18446744073709551616+(mm%18446744073709551616+c+0)/18446744073709551616) (by omega) (by omega)]
  rw [B9 (by omega) (by omega)]
  refine ⟨⟨k+1,_,_,rfl,by omega,by simpa using j,s.set (Dw _),by omega,F,?_,?_⟩,by simp only [iAt,aH,aO];omega⟩
  ·rw [D3 (by omega)];exact D7 m
  ·rw [C6 (by omega),E5,aF,aI (by omega),aZ,H,G,<- q]
   have key:(d.getD k 0+(mm%18446744073709551616+c+0)%18446744073709551616+0)%18446744073709551616+18446744073709551616*(mm/18446744073709551616+(mm%18446744073709551616+c+0)/18446744073709551616+(d.getD k 0+(mm%18446744073709551616+c+0)%18446744073709551616+0)/18446744073709551616)=d.getD k 0+mm+c:=by omega
   generalize (d.getD k 0+(mm%18446744073709551616+c+0)%18446744073709551616+0)%18446744073709551616=dg at *
   generalize mm/18446744073709551616+(mm%18446744073709551616+c+0)/18446744073709551616+(d.getD k 0+(mm%18446744073709551616+c+0)%18446744073709551616+0)/18446744073709551616=cn at *
   rw [<- hmm] at key
   grind
 ·have p:k=xs.length:=by omega
  subst p
  rw [aV,<- hle,aV,<- j,aV] at y
  exact hK d c r j s x (by rw [<- j];exact y) o
def Ia{zs xs:List Int}{an bn:Nat}{wd:Int}(w:Win .u64 h g b e A pre zs post)(hn:an=zs.length)(sx:SlI .u64 g B xs)(hm:bn=xs.length)(dz:Dig b64 zs)(dx:Dig b64 xs)(hle:zs.length=xs.length)(hw:0<=wd/\wd<18446744073709551616)(hl:xs.length<=10000000000)
 (hK:∀ zs' c h',zs'.length=zs.length->Dig b64 zs'->(0<=c/\c<18446744073709551616)->val b64 zs'=val b64 zs-val b64 xs*wd+c*b64^zs.length->Win .u64 h' g b e A pre zs' post->K (U c) h'):aY prog R6 #[.slice A an ac,.slice B bn bc,U wd] h K:=by
 subst hn hm
 refine Jj _ _ _ _ _ _ _ ?_
 unfold Ez
 refine ⟨fun l s=>∃ (k:Nat) (c:Int) (d:List Int),l=[U c,I k]/\k<=xs.length/\d.length=zs.length/\Dig b64 d/\(0<=c/\c<18446744073709551616)/\Win .u64 s g b e A pre d post/\d.drop k=zs.drop k/\val b64 (d.take k)=val b64 (zs.take k)-val b64 (xs.take k)*wd+c*b64^k,fun l _=>xs.length-(iAt l 1).toNat,⟨0,0,zs,rfl,by omega,rfl,dz,by omega,w,rfl,by simp [val]⟩,?_⟩
 rintro c i s ⟨k,J,d,x,L,j,u,y,o,m,p⟩
 obtain ⟨rfl,rfl⟩:c=J/\i=(k:Int):=by simpa using x
 refine B4 (fun E=>?_) (fun E=>?_)
 ·have z:=L6 dx k
  have D:=L6 u k
  have r:=E2 m
  have H:=C2 b64 xs k
  have G:=C2 b64 zs k
  have hm:0<=xs.getD k 0*wd/\xs.getD k 0*wd<=18446744073709551615*18446744073709551615:=⟨aQ z.1 hw.1,dG (by omega) (by omega) hw.1 (by decide)⟩
  refine (sx.mono o.le).load rfl (by omega) (by omega) ?_
  rw [aC]
  refine Kg z hw ⟨_,_,rfl,?_⟩
  generalize hmm:xs.getD k 0*wd=mm at *
  refine Es (by omega) y (by omega) ⟨_,_,rfl,?_⟩
  refine o.sl.load j.symm (by omega) (by omega) ?_
  rw [aC]
  refine Dr D (by omega) (by omega) ⟨_,_,rfl,?_⟩
  obtain ⟨a,C,_⟩:=SlV.at o.sl (i:=k) (by simp;omega)
  refine ⟨a,C,by omega,by omega,o.storeN F0 C (by omega) ?_⟩
  intro h' F
  rw [B6 (n:=(k:Int)+1) (by omega) (by omega)]
  rw [B9 (n:=mm/18446744073709551616+(mm%18446744073709551616+c+0)/18446744073709551616) (by omega) (by omega)]
  rw [B9 (by split<;>omega) (by split<;>omega)]
  refine ⟨⟨k+1,_,_,rfl,by omega,by simpa using j,u.set (Dw _),by split<;>omega,F,?_,?_⟩,by simp only [iAt,aH,aO];omega⟩
  ·rw [D3 (by omega)];exact D7 m
  ·rw [C6 (by omega),E5,aF,aI (by omega),aZ,H,G,<- r,p]
   have key:(d.getD k 0-(mm%18446744073709551616+c+0)%18446744073709551616-0)%18446744073709551616=d.getD k 0-mm-c+18446744073709551616*(mm/18446744073709551616+(mm%18446744073709551616+c+0)/18446744073709551616+(if d.getD k 0-(mm%18446744073709551616+c+0)%18446744073709551616-0<0 then 1 else 0)):=by split<;>omega
   rw [key]
   generalize mm/18446744073709551616+(mm%18446744073709551616+c+0)/18446744073709551616+(if d.getD k 0-(mm%18446744073709551616+c+0)%18446744073709551616-0<0 then 1 else 0)=cn at *
   rw [<- hmm]
   grind
 ·have q:k=xs.length:=by omega
  subst q
  rw [aV,<- hle,aV,<- j,aV] at p
  exact hK d c s j u y (by rw [<- j];exact p) o
end
def Vi{x z:Int}{s:Nat}(hs:s<=64)(_hx:0<=x/\x<18446744073709551616)(hz:0<=z/\z<(2:Int)^s):
 bor .u64 z (x*2^s%18446744073709551616)=z+x*2^s%18446744073709551616/\z+x*2^s%18446744073709551616<18446744073709551616/\x*2^s%18446744073709551616=2^s*(x%2^(64-s)):=by
 have k:=W5 hs
 have g:0<(2:Int)^s:=bG (by decide)
 have l:0<(2:Int)^(64-s):=bG (by decide)
 have a:z<18446744073709551616:=by
  have:(2:Int)^s*1<=2^s*2^(64-s):=aG (by omega) (by omega)
  omega
 have j:x*2^s%18446744073709551616=2^s*(x%2^(64-s)):=by
  rw [<- k,aP x,Int.mul_emod_mul_of_pos _ _ g]
 have e:=Dw (x*2^s)
 have c:0<=x%2^(64-s):=aR _ (by omega)
 have i:(x*2^s%18446744073709551616).toNat=2^s*(x%2^(64-s)).toNat:=by
  rw [j,Int.toNat_mul (by omega) c]
  rw [fH (by decide)];rfl
 have d:z.toNat<2^s:=by
  have:((2^s:Nat):Int)=(2:Int)^s:=by simp
  omega
 have b:bor .u64 z (x*2^s%18446744073709551616)=z+x*2^s%18446744073709551616:=by
  rw [A41 ⟨hz.1,a⟩ e,i,Nat.or_comm,A50 d,<- i]
  omega
 refine ⟨b,?_,j⟩
 rw [<- b,A41 ⟨hz.1,a⟩ e]
 have:z.toNat ||| (x*2^s%18446744073709551616).toNat<2^64:=Nat.or_lt_two_pow (by omega) (by have:=e.2;show _<_;omega)
 omega
def Fw(k:Nat):b64^k=(2:Int)^(64*k):=by
 rw [show b64=(2:Int)^64 by decide,<- Int.pow_mul]
section
variable {h g:bJ} {K:VP} {A B:Option bN} {ac bc:Nat}
def Q9{x:Int}{an s:Nat}(ma:Mw h A an x)(ha:an<=ac)(hl:an<=1000000000)(hs:s<=10000000000)(hK:∀ A' m c' h',h.le h'->m<=c'->Mw h' A' m (x*2^s)->K (.slice A' m c') h'):aY prog Q5 #[.slice A an ac,U s] h K:=by
 have j:=ma.len_zero (by decide)
 refine Zb _ _ _ _ ?_
 unfold Vx
 refine D9 (fun L=>?_) (fun L=>D9 (fun y=>?_) (fun y=>?_))
 ·have:=j.2 (by omega)
  subst this
  rw [dQ] at hK
  exact hK _ _ _ _ (B3 _) ha ma
 ·have:s=0:=by omega
  subst this
  rw [fO,Int.mul_one] at hK
  exact hK _ _ _ _ (B3 _) ha ma
 ·obtain ⟨a,rfl,sx,dx,nx,rfl⟩:=ma
  obtain ⟨k0,hk0⟩:∃ k0,k0=s/64:=⟨_,rfl⟩
  obtain ⟨r,hr⟩:∃ r,r=s%64:=⟨_,rfl⟩
  have R:B5 (B8 (dE (s:Int) 64))=(k0:Int):=by
   rw [bB (by omega),B9 (by omega) (by omega),B6 (by omega) (by omega)];omega
  have em:Int.tmod (s:Int) 64=(r:Int):=by rw [bW (by omega)];omega
  have Q:B8 ((64:Int)-(r:Int))=((64-r:Nat):Int):=by rw [B9 (by omega) (by omega)];omega
  simp only [R,em,Q,aC]
  have O:B5 (B5 ((a.length:Int)+k0)+1)=((a.length+k0+1:Nat):Int):=by rw [B6 (n:=(a.length:Int)+k0) (by omega) (by omega),B6 (by omega) (by omega)];omega
  rw [O]
  refine I3 O8 (by omega) (by omega) (by omega) ?_
  intro b J
  rw [aC]
  refine ⟨_,_,_,rfl,?_⟩
  have D:0<(2:Int)^r:=bG (by decide)
  have q:0<(2:Int)^(64-r):=bG (by decide)
  have g:=W5 (s:=r) (by omega)
  refine ⟨fun l h'=>∃ (k:Nat) (zs:List Int),l=[I k]/\k<=a.length/\zs.length=a.length+k0+1/\Dig b64 zs/\h'=blk .u64 C0 h b zs/\zs.drop (k+k0+1)=aE (a.length-k) 0/\zs.getD (k+k0) 0<2^r/\val b64 (zs.take (k+k0+1))=val b64 (a.take k)*2^s,fun l _=>a.length-(iAt l 0).toNat,⟨0,_,rfl,by omega,by simp,G4 (by decide) _,rfl,?_,?_,?_⟩,?_⟩
  ·rw [bA];congr 1;omega
  ·have:(aE (a.length+k0+1) (0:Int)).getD (0+k0) 0=0:=by simp [cK,List.getElem?_replicate];split<;>rfl
   rw [this];exact D
  ·rw [cF,Au];simp [val]
  rintro i hp ⟨k,zs,F,hk,c,z,rfl,w,W,d⟩
  obtain rfl:=sI1 F
  have p:=S3 (k:=.u64) (e:=C0) J zs
  refine B4 (fun y=>?_) (fun y=>?_)
  ·have C:=L6 dx k
   have M:=L6 z (k+k0)
   have vx:=C2 b64 a k
   have vz:=C2 b64 zs (k+k0)
   have V:B5 ((k:Int)+k0)=((k+k0:Nat):Int):=by rw [B6 (by omega) (by omega)];omega
   have e3:B5 (((k+k0:Nat):Int)+1)=((k+k0+1:Nat):Int):=by rw [B6 (by omega) (by omega)];omega
   rw [V,e3]
   refine (sx.mono p).load rfl (by omega) (by omega) ?_
   refine (Cd .u64 C0 h b zs).load c.symm (by omega) (by omega) ?_
   simp only [aC]
   refine B4 (fun e=>absurd e (by omega)) (fun _=>?_)
   refine ⟨_,rfl,by omega,by omega,?_⟩
   obtain ⟨T,X,o3⟩:=Vi (s:=r) (by omega) C ⟨M.1,W⟩
   rw [aI (show r<=64 by omega),D8,T,B2f (show 64-r<=64 by omega)]
   have N:=Dw (a.getD k 0*2^r)
   refine Dh (zs:=zs) (i:=k+k0) F0 (by first|omega|(rw [bL];omega)) ?_
   refine B4 (fun e=>absurd e (by omega)) (fun _=>?_)
   refine ⟨_,rfl,by omega,by omega,?_⟩
   refine Dh (zs:=zs.set (k+k0) (zs.getD (k+k0) 0+a.getD k 0*2^r%18446744073709551616)) (i:=k+k0+1) F0 (by first|omega|(rw [bL];omega)) ?_
   have G:0<=a.getD k 0/2^(64-r)/\a.getD k 0/2^(64-r)<2^r:=⟨bM C.1 (by omega),bC q (by rw [g];exact C.2)⟩
   have Z:(2:Int)^r<=9223372036854775808:=by
    have:=D5 (B:=2) (by decide) (show r<=63 by omega)
    have e:(2:Int)^63=9223372036854775808:=by decide
    omega
   rw [B6 (n:=(k:Int)+1) (by omega) (by omega)]
   refine ⟨⟨k+1,(zs.set (k+k0) (zs.getD (k+k0) 0+a.getD k 0*2^r%18446744073709551616)).set (k+k0+1) (a.getD k 0/2^(64-r)),rfl,by omega,by simpa using c,(z.set ⟨by omega,X⟩).set ⟨G.1,by show _<(18446744073709551616:Int);omega⟩,rfl,?_,?_,?_⟩,by simp only [iAt,aH];omega⟩
   ·rw [show k+1+k0+1=(k+k0+1)+1 by omega,D3 (by omega),D3 (by omega),<- cM,w,bA]
    congr 1
   ·rw [show k+1+k0=k+k0+1 by omega]
    have:((zs.set (k+k0) (zs.getD (k+k0) 0+a.getD k 0*2^r%18446744073709551616)).set (k+k0+1) (a.getD k 0/2^(64-r))).getD (k+k0+1) 0=a.getD k 0/2^(64-r):=by
     rw [cK,fN (by rw [bL];omega)];rfl
    rw [this];exact G.2
   ·rw [show k+1+k0+1=(k+k0+1)+1 by omega,C6 (by rw [bL];omega),E5,C6 (by omega),E5]
    simp only [aF,aN,List.length_singleton]
    rw [aI (show k+k0<=zs.length by omega),aZ,vx]
    rw [vz] at d
    have o:(2:Int)^s=b64^k0*2^r:=by
     rw [Fw,<- aW];congr 1;omega
    have E:b64^(k+k0)=b64^k*b64^k0:=aW _ _ _
    have S:=aK (a.getD k 0) (2^(64-r))
    have key:a.getD k 0*2^r%18446744073709551616+18446744073709551616*(a.getD k 0/2^(64-r))=a.getD k 0*2^r:=by
     rw [o3,<- g,cD,<- cI]
     have:a.getD k 0%2^(64-r)+2^(64-r)*(a.getD k 0/2^(64-r))=a.getD k 0:=by omega
     rw [this,aP]
    generalize a.getD k 0*2^r%18446744073709551616=lo at *
    generalize a.getD k 0/2^(64-r)=hi at *
    rw [o] at d ⊢
    rw [E] at d ⊢
    have e5:(val b64 (a.take k)+b64^k*a.getD k 0)*(b64^k0*2^r)=val b64 (a.take k)*(b64^k0*2^r)+b64^k*b64^k0*(a.getD k 0*2^r):=by grind
    rw [e5,<- d,<- key]
    grind
  ·have u:k=a.length:=by omega
   subst u
   rw [aV,aM (by omega)] at d
   rw [<- c]
   refine M0 (Cd _ _ _ _ _) z (bD _) (by omega) ?_
   intro m hm H
   rw [d] at H
   exact ⟨_,_,_,rfl,hK _ _ _ _ (S3 J _) hm H⟩
def Et{x:Int}{an s:Nat}(ma:Mw h A an x)(hl:an<=1000000000)(hs:s<=1000000000000)(hK:∀ A' m c' h',h.le h'->m<=c'->Mw h' A' m (x/2^s)->K (.slice A' m c') h'):aY prog Ad #[.slice A an ac,U s] h K:=by
 have y:=ma.nonneg (by decide)
 have ag:=ma.lt (by decide)
 refine Ug _ _ _ _ ?_
 unfold Td
 obtain ⟨k0,hk0⟩:∃ k0,k0=s/64:=⟨_,rfl⟩
 obtain ⟨r,hr⟩:∃ r,r=s%64:=⟨_,rfl⟩
 have M:B8 (dE (s:Int) 64)=(k0:Int):=by
  rw [bB (by omega),B9 (by omega) (by omega)];omega
 have L:B5 (k0:Int)=(k0:Int):=B6 (by omega) (by omega)
 have em:Int.tmod (s:Int) 64=(r:Int):=by rw [bW (by omega)];omega
 have er:B8 ((64:Int)-(r:Int))=((64-r:Nat):Int):=by rw [B9 (by omega) (by omega)];omega
 have en:B8 (an:Int)=(an:Int):=B9 (by omega) (by omega)
 simp only [M,L,em,er,en,aC]
 have g:(2:Int)^s=b64^k0*2^r:=by
  rw [Fw,<- aW];congr 1;omega
 refine B4 (fun h1=>?_) (fun h1=>?_)
 ·have:x/2^s=0:=by
   apply bK y
   rw [g]
   have H:=D5 (B:=b64) (by decide) (show an<=k0 by omega)
   have V:b64^k0*1<=b64^k0*2^r:=aG (by have:0<(2:Int)^r:=bG (by decide);omega) (aL (D6 (by decide) _))
   omega
  rw [this] at hK
  exact hK _ _ _ _ (B3 _) (bD _) Mag.zero
 ·obtain ⟨a,rfl,sx,q,nx,rfl⟩:=ma
  have w:B5 ((a.length:Int)-k0)=((a.length-k0:Nat):Int):=by rw [B6 (by omega) (by omega)];omega
  rw [w]
  refine I3 O8 (by omega) (by omega) (by omega) ?_
  intro b hb
  rw [aC]
  refine ⟨_,_,_,rfl,?_⟩
  have Z:0<(2:Int)^r:=bG (by decide)
  have d:=W5 (s:=r) (by omega)
  have C:0<(2:Int)^(64-r):=bG (by decide)
  have af:(a.drop k0).length=a.length-k0:=aS
  have p:∀ i,(a.drop k0).getD i 0=a.getD (k0+i) 0:=fun i=>A1e
  refine ⟨fun l h'=>∃ (k:Nat) (zs:List Int),l=[I k]/\k<=a.length-k0/\zs.length=a.length-k0/\Dig b64 zs/\h'=blk .u64 C0 h b zs/\2^r*val b64 (zs.take k)+(a.drop k0).getD 0 0%2^r=val b64 ((a.drop k0).take k)+b64^k*((a.drop k0).getD k 0%2^r),fun l _=>a.length-(iAt l 0).toNat,⟨0,_,rfl,by omega,by simp,G4 (by decide) _,rfl,by simp [val]⟩,?_⟩
  rintro i ah ⟨k,zs,R,hk,c,J,rfl,X⟩
  obtain rfl:=sI1 R
  have j:∀ zs,h.le (blk .u64 C0 h b zs):=fun zs=>S3 (k:=.u64) (e:=C0) hb zs
  have T:=L6 (q.drop k0) k
  refine B4 (fun h2=>?_) (fun h2=>?_)
  ·have e2:B5 ((k:Int)+k0)=((k0+k:Nat):Int):=by rw [B6 (by omega) (by omega)];omega
   have e3:B5 (((k0+k:Nat):Int)+1)=((k0+(k+1):Nat):Int):=by rw [B6 (by omega) (by omega)];omega
   rw [e2,e3]
   refine (sx.mono (j zs)).load rfl (by omega) (by omega) ?_
   refine B4 (fun e=>absurd e (by omega)) (fun _=>?_)
   refine ⟨_,rfl,by omega,by omega,?_⟩
   simp only [aC]
   rw [<- p k,B2f (show r<=64 by omega)]
   have o:0<=(a.drop k0).getD k 0/2^r:=bM T.1 (by omega)
   have E:(a.drop k0).getD k 0/2^r<2^(64-r):=by
    apply bC Z
    rw [aP,d];exact T.2
   have ab:(2:Int)^(64-r)<=18446744073709551616:=by
    rw [<- d]
    have:=aD (show 1<=(2:Int)^r by omega) (aL C);omega
   refine Dh (zs:=zs) (i:=k) F0 (by first|omega|(rw [bL];omega)) ?_
   have d1:Dig b64 (zs.set k ((a.drop k0).getD k 0/2^r)):=J.set ⟨o,by show _<(18446744073709551616:Int);omega⟩
   have l1:(zs.set k ((a.drop k0).getD k 0/2^r)).length=a.length-k0:=by rw [bL];exact c
   have g1:(zs.set k ((a.drop k0).getD k 0/2^r)).getD k 0=(a.drop k0).getD k 0/2^r:=by simp [cK,show k<zs.length by omega]
   have vr:=C2 b64 (a.drop k0) k
   have n:∀ z:Int,2^r*z=(a.drop k0).getD k 0-(a.drop k0).getD k 0%2^r+18446744073709551616*((a.drop k0).getD (k+1) 0%2^r)->
    2^r*val b64 ((zs.set k z).take (k+1))+(a.drop k0).getD 0 0%2^r=val b64 ((a.drop k0).take (k+1))+b64^(k+1)*((a.drop k0).getD (k+1) 0%2^r):=by
    intro z ez
    rw [C6 (by omega),E5,aF,aI (by omega),vr,aZ]
    have w:2^r*(val b64 (zs.take k)+b64^k*z)=2^r*val b64 (zs.take k)+b64^k*(2^r*z):=by grind
    rw [w,ez]
    grind
   have ae:=aK ((a.drop k0).getD k 0) (2^r)
   have u:B5 ((k:Int)+1)=((k+1:Nat):Int):=by rw [B6 (by omega) (by omega)];omega
   rw [u]
   refine B4 (fun h3=>?_) (fun h3=>?_)
   ·have ld:=(Cd .u64 C0 h b (zs.set k ((a.drop k0).getD k 0/2^r)))
    obtain ⟨aa,Q,N⟩:=SlV.at ld (i:=k) (by simp;omega)
    refine ⟨aa,Q,by omega,by omega,(a.drop k0).getD k 0/2^r,?_,?_⟩
    ·rw [eA,N]
     congr 1
     simp only [List.getElem_map]
     congr 1
     simp
    refine (sx.mono (j _)).load rfl (by omega) (by omega) ?_
    refine B4 (fun e=>absurd e (by omega)) (fun _=>?_)
    refine ⟨_,rfl,by omega,by omega,?_⟩
    simp only [aC]
    rw [<- p (k+1)]
    have gr:=L6 (q.drop k0) (k+1)
    obtain ⟨o1,o2,o3⟩:=Vi (s:=64-r) (by omega) gr ⟨o,E⟩
    rw [aI (show 64-r<=64 by omega),D8,o1]
    refine Dh (zs:=zs.set k ((a.drop k0).getD k 0/2^r)) (i:=k) F0 (by first|omega|(rw [bL];omega)) ?_
    rw [List.set_set]
    have ad:=Dw ((a.drop k0).getD (k+1) 0*2^(64-r))
    refine ⟨⟨k+1,zs.set k ((a.drop k0).getD k 0/2^r+(a.drop k0).getD (k+1) 0*2^(64-r)%18446744073709551616),rfl,by omega,by simpa using c,J.set ⟨by omega,o2⟩,rfl,n _ ?_⟩,by simp only [iAt,aH];omega⟩
    rw [o3,show 64-(64-r)=r by omega,cI,<- cD,d]
    omega
   ·have F:(a.drop k0).getD (k+1) 0=0:=by simp only [cK,bZ (show (a.drop k0).length<=k+1 by omega)];rfl
    refine ⟨⟨k+1,zs.set k ((a.drop k0).getD k 0/2^r),rfl,by omega,l1,d1,rfl,n _ ?_⟩,by simp only [iAt,aH];omega⟩
    rw [F,fE,eJ,eO];omega
  ·have G:k=a.length-k0:=by omega
   subst G
   have F:(a.drop k0).getD (a.length-k0) 0=0:=by simp only [cK,bZ (show (a.drop k0).length<=a.length-k0 by omega)];rfl
   rw [F,fE,eJ,eO,aM (by omega),aM (by omega)] at X
   have O:=aR ((a.drop k0).getD 0 0) (show (2:Int)^r≠0 by omega)
   have S:=aJ ((a.drop k0).getD 0 0) Z
   have D:val b64 a/2^s=val b64 zs:=by
    have sp:=E7 b64 a (i:=k0) (by omega)
    have H:=I5 (by decide) (q.take k0)
    have V:=C5 (by decide) (q.take k0)
    rw [aF,aI (by omega)] at H
    rw [g,<- dP (aL (D6 (by decide) _)),sp,dY _ _ (by have:=D6 (B:=b64) (by decide) k0;omega),bK V H,cO,<- X,dT,dY _ _ (by omega),bK O S,cO]
   rw [<- c]
   refine M0 (Cd _ _ _ _ _) J (bD _) (by omega) ?_
   intro m hm W
   rw [<- D] at W
   exact ⟨_,_,_,rfl,hK _ _ _ _ (S3 hb _) hm W⟩
end
def Bm(B:Int)(xs:List Int)(n:Nat):val B (xs++aE n 0)=val B xs:=by rw [H6,Au];omega
def Kf{xs:List Int}{k:Nat}(h:Norm xs)(hk:k<xs.length):Norm (xs.drop k):=by
 unfold Norm at *
 rwa [List.getLast?_drop,iN (by omega)]
def Mw.of{h:bJ}{A:Option bN}{xs:List Int}(s:SlI .u64 h A xs)(d:Dig b64 xs)(n:Norm xs):Mw h A xs.length (val b64 xs):=⟨xs,rfl,s,d,n,rfl⟩
def Yw{k:cV}{h:bJ}{A:Option bN}{xs:List Int}(s:SlI k h A xs){c l:Nat}(hl:l<=xs.length)(hc:xs.length<=c):SlI k h (J4 A c l 1) (xs.drop l):=by
 have:=s.cut (c:=c) (l:=l) (m:=xs.length) hl (bD _) hc
 rwa [aM (by rw [aS];omega)] at this
def Hv{k:cV}{h:bJ}{A:Option bN}{xs:List Int}(s:SlI k h A xs){c m:Nat}(hm:m<=xs.length)(hc:xs.length<=c):SlI k h A (xs.take m):=by
 have:=s.cut (c:=c) (l:=0) (m:=m) (by omega) hm hc
 simpa [H1] using this
def Hc{h:bJ}{K:VP}{A:Option bN}{ac n:Nat}{v:Int}{xs:List Int}(s:SlI .u64 h A xs)(hd:Dig b64 xs)(hn:n=xs.length)(hv:val b64 xs=v)(hc:n<=ac)(hl:n<=10000000000)(hK:∀ m,m<=n->Mw h A m v->K (.slice A m ac) h):aY prog H3 #[.slice A n ac] h K:=by
 subst hn hv
 exact M0 s hd hc hl hK
def C0l(N:Nat):Prop:=∀ {h:bJ} {K:VP} {A B:Option bN} {ac bc an bn:Nat} {x y:Int},an+bn<=N->Mw h A an x->Mw h B bn y->an<=ac->bn<=bc->an<=1000000000->bn<=1000000000->
 (∀ A' m c' h',h.le h'->m<=c'->Mw h' A' m (x*y)->K (.slice A' m c') h')->aY prog C9 #[.slice A an ac,.slice B bn bc] h K
section
variable {h g:bJ} {K:VP} {A B:Option bN} {ac bc:Nat}
def B95{xs ys:List Int}{b:Nat}(hb:h b=none)(sx:SlI .u64 h A xs)(dx:Dig b64 xs)(sy:SlI .u64 h B ys)(dy:Dig b64 ys)(hl:xs.length<=1000000000)(hl2:ys.length<=1000000000)
 (hK:∀ A' m c' h',h.le h'->m<=c'->Mw h' A' m (val b64 xs*val b64 ys)->K (.slice A' m c') h'):
 U5 prog K A xs.length ac B ys.length (some ⟨b,0,none⟩) (xs.length+ys.length) (xs.length+ys.length) (blk .u64 C0 h b (aE (xs.length+ys.length) 0)):=by
 unfold U5
 refine ⟨fun l E=>∃ (k:Nat) (zs:List Int),l=[I k]/\k<=ys.length/\zs.length=xs.length+ys.length/\Dig b64 zs/\Win .u64 E h b C0 (some ⟨b,0,none⟩) [] zs []/\zs.drop (k+xs.length)=aE (ys.length-k) 0/\val b64 (zs.take (k+xs.length))=val b64 xs*val b64 (ys.take k),fun l _=>ys.length-(iAt l 0).toNat,⟨0,_,rfl,by omega,by simp,G4 (by decide) _,Win.blk .u64 C0 hb _,?_,?_⟩,?_⟩
 ·rw [bA];congr 1;omega
 ·rw [cF,Au];simp [val]
 rintro i E ⟨k,zs,y,R,p,j,w,s,q⟩
 obtain rfl:=sI1 y
 refine B4 (fun M=>?_) (fun M=>?_)
 ·have H:=L6 dy k
  have F:=C2 b64 ys k
  have G:B5 ((k:Int)+xs.length)=((k+xs.length:Nat):Int):=by rw [B6 (by omega) (by omega)];omega
  rw [G]
  refine (sy.mono w.le).load rfl (by omega) (by omega) ?_
  simp only [aC]
  refine ⟨⟨by omega,by omega⟩,⟨by omega,by omega⟩,?_⟩
  have a:((zs.drop k).take (k+xs.length-k)).length=xs.length:=by rw [aF,aS];omega
  refine Ta (w.sub (l:=k) (m:=k+xs.length) (c:=xs.length+ys.length) (by omega) (by omega) (by omega)) (by rw [a];omega) sx rfl ((j.drop k).take _) dx a H (by omega) ?_
  intro g c h' d e J C N
  rw [a] at d
  have Q:=w.whole (l:=k) (m:=k+xs.length) (by omega) (by omega) (by omega) N
  refine ⟨_,rfl,_,rfl,by omega,by omega,?_⟩
  have o:(zs.take k++g++zs.drop (k+xs.length)).length=xs.length+ys.length:=by
   simp only [aN,aF,aS];omega
  refine Q.storeN (i:=k+xs.length) F0 rfl (by omega) ?_
  intro S L
  rw [B6 (n:=(k:Int)+1) (by omega) (by omega)]
  have x:(zs.take k++g++zs.drop (k+xs.length)).take (k+xs.length)=zs.take k++g:=by
   apply cP
   simp only [aN,aF];omega
  have z:(zs.take k++g++zs.drop (k+xs.length)).drop (k+xs.length)=zs.drop (k+xs.length):=by
   apply dC
   simp only [aN,aF];omega
  refine ⟨⟨k+1,_,rfl,by omega,by rw [bL];exact o,(((j.take k).append e).append (j.drop _)).set J,L,?_,?_⟩,by simp only [iAt,aH];omega⟩
  ·rw [show k+1+xs.length=(k+xs.length)+1 by omega,D3 (by omega),<- cM,z,s,bA]
   congr 1
  ·rw [show k+1+xs.length=(k+xs.length)+1 by omega,C6 (by omega),x,E5,H6,F]
   simp only [aN,aF]
   rw [aI (by omega),d,aW]
   have u:val b64 (zs.take (k+xs.length))=val b64 (zs.take k)+b64^k*val b64 ((zs.drop k).take (k+xs.length-k)):=by
    rw [show k+xs.length-k=xs.length by omega,List.take_add,H6,aF,aI (by omega)]
   rw [a] at C
   rw [u] at q
   grind
 ·have r:k=ys.length:=by omega
  subst r
  rw [aV,aM (by omega)] at q
  rw [<- p]
  refine M0 w.sl j (bD _) (by omega) ?_
  intro m O D
  rw [q] at D
  exact ⟨_,_,_,rfl,hK _ _ _ _ w.le O D⟩
def Na{x y:Int}{an bn N:Nat}(ih:C0l N)(hN:2*bn<=N)(ma:Mw h A an x)(mb:Mw h B bn y)(ha:an<=ac)(hbc:bn<=bc)(hl:an<=1000000000)(hb0:0<bn)(hba:bn<=an)(hK:∀ A' m c' h',h.le h'->m<=c'->Mw h' A' m (x*y)->K (.slice A' m c') h'):aY prog Bc #[.slice A an ac,.slice B bn bc] h K:=by
 have Z:=mb.nonneg (by decide)
 have M:=mb.lt (by decide)
 obtain ⟨a,rfl,sx,R,nx,rfl⟩:=ma
 refine Pl _ _ _ _ _ _ ?_
 unfold Lo
 have e1:B5 ((a.length:Int)+bn)=((a.length+bn:Nat):Int):=by rw [B6 (by omega) (by omega)];omega
 rw [e1]
 refine I3 O8 (by omega) (by omega) (by omega) ?_
 intro b hb
 rw [aC]
 refine ⟨_,_,_,rfl,?_⟩
 refine ⟨fun l H=>∃ (k:Nat) (zs:List Int) (g:bJ),l=[I k]/\k<=a.length+bn/\h.le g/\zs.length=a.length+bn/\Dig b64 zs/\Win .u64 H g b C0 (some ⟨b,0,none⟩) [] zs []/\val b64 zs=val b64 (a.take k)*y,fun l _=>a.length+bn-(iAt l 0).toNat,⟨0,_,h,rfl,by omega,B3 h,by simp,G4 (by decide) _,Win.blk .u64 C0 hb _,by rw [Au];simp [val]⟩,?_⟩
 rintro i H ⟨k,zs,g,ak,hk,S,V,z,w,X⟩
 obtain rfl:=sI1 ak
 refine B4 (fun h1=>?_) (fun h1=>?_)
 ·have e2:B5 ((k:Int)+bn)=((k+bn:Nat):Int):=by rw [B6 (by omega) (by omega)];omega
  rw [e2]
  obtain ⟨en,hen⟩:∃ en,en=min a.length (k+bn):=⟨_,rfl⟩
  have e3:(if (a.length:Int)<((k+bn:Nat):Int) then (a.length:Int) else ((k+bn:Nat):Int))=(en:Int):=by split<;>omega
  rw [e3]
  simp only [aC]
  refine ⟨⟨by omega,by omega⟩,⟨by omega,by omega⟩,⟨by omega,by omega⟩,?_⟩
  have aa:((a.drop k).take (en-k)).length=en-k:=by rw [aF,aS];omega
  have sp:SlI .u64 g (J4 A ac k 1) ((a.drop k).take (en-k)):=(sx.mono S).cut (c:=ac) (l:=k) (m:=en) (by omega) (by omega) ha
  have dp:Dig b64 ((a.drop k).take (en-k)):=(R.drop k).take _
  have ao:=C5 (by decide) R
  have G:∀ m,m<=en-k->Norm (((a.drop k).take (en-k)).take m)->val b64 (((a.drop k).take (en-k)).take m)=val b64 ((a.drop k).take (en-k))->
   aY prog C9 #[.slice (J4 A ac k 1) m (ac-k),.slice B bn bc] H (fun r1 d=>∃ (t38A:Option bN) (t38n:Nat) (t38c:Nat),r1= .slice t38A t38n t38c/\Heap.le H d/\aY prog Q7 #[.slice (J4 (some ⟨b,0,none⟩) (a.length+bn) k 1) (a.length+bn-k) (a.length+bn-k),.slice t38A t38n t38c] d (fun r2 s=>r2= .tuple #[]/\(∃ (k_1:Nat) (zs:List Int) (g:bJ),[I ((k+bn:Nat):Int)]=[I k_1]/\k_1<=a.length+bn/\h.le g/\zs.length=a.length+bn/\Dig b64 zs/\Win .u64 s g b C0 (some ⟨b,0,none⟩) [] zs []/\val b64 zs=val b64 (a.take k_1)*y)/\a.length+bn-(iAt [I ((k+bn:Nat):Int)] 0).toNat<a.length+bn-(iAt [I k] 0).toNat)):=by
   intro m hm p u
   have Mp:Mw g (J4 A ac k 1) m (val b64 ((a.drop k).take (en-k))):=⟨((a.drop k).take (en-k)).take m,by rw [aF];omega,Hv sp (c:=ac) (by omega) (by omega),dp.take m,p,u⟩
   refine w.call ?_
   refine ih (by omega) Mp (mb.mono S) (by omega) hbc (by omega) (by omega) ?_
   intro A' m' c' g2 l2 aq M2 h3 W
   refine ⟨_,_,_,rfl,?_,?_⟩
   ·rw [w.eq,W.eq]
    intro kk o e
    by_cases L:kk=b
    ·subst L;rw [C4] at e ⊢;exact e
    ·rw [B7 _ _ L] at e ⊢;exact l2 kk o e
   obtain ⟨n,J,E,F,ag,af⟩:=M2
   have T:=E7 b64 zs (i:=k) (by omega)
   have ar:=C5 (by decide) (z.take k)
   have ae:a.take en=a.take k++(a.drop k).take (en-k):=by
    have:=List.take_add (l:=a) (i:=k) (j:=en-k)
    rwa [show k+(en-k)=en by omega] at this
   have ai:val b64 (a.take en)=val b64 (a.take k)+b64^k*val b64 ((a.drop k).take (en-k)):=by
    rw [ae,H6,aF,aI (by omega)]
   have O:val b64 zs+b64^k*val b64 n=val b64 (a.take en)*y:=by
    rw [X,af,ai];grind
   have ap:val b64 (a.take en)*y<b64^(a.length+bn):=by
    have t1:=I5 (by decide) (R.take en)
    have t2:=C5 (by decide) (R.take en)
    rw [aF,aI (by omega)] at t1
    have t3:val b64 (a.take en)*y<=b64^en*y:=aD (by omega) Z
    have t4:b64^en*y<b64^en*b64^bn:=bX M (D6 (by decide) en)
    rw [<- aW] at t4
    have t5:=D5 (B:=b64) (by decide) (show en+bn<=a.length+bn by omega)
    omega
   have C:val b64 (zs.drop k)+val b64 n<b64^(a.length+bn-k):=by
    have e5:b64^(a.length+bn)=b64^k*b64^(a.length+bn-k):=by rw [<- aW];congr 1;omega
    by_cases Q:val b64 (zs.drop k)+val b64 n<b64^(a.length+bn-k)
    ·exact Q
    ·have:=aG (show b64^(a.length+bn-k)<=val b64 (zs.drop k)+val b64 n by omega) (aL (D6 (B:=b64) (by decide) k))
     rw [cI] at this
     omega
   have al:=C5 (by decide) (z.drop k)
   have am:n.length<=a.length+bn-k:=by
    have Mps:Mw g2 A' n.length (val b64 n):=⟨n,rfl,E,F,ag,rfl⟩
    exact Mps.len_le (by decide) (by omega)
   have ws:=W.sub (l:=k) (m:=a.length+bn) (c:=a.length+bn) (by omega) (by omega) (by omega)
   have ah:(zs.drop k).take (a.length+bn-k)=zs.drop k:=aM (by rw [aS];omega)
   have D:(zs.drop k).length=a.length+bn-k:=by rw [aS];omega
   rw [ah] at ws
   refine Gt ws D.symm E J (z.drop k) F (by omega) (by rw [D];exact C) (by omega) ?_
   intro us h5 au ab aj w5
   have w6:=W.whole (l:=k) (m:=a.length+bn) (by omega) (by omega) (by omega) w5
   refine ⟨rfl,⟨k+bn,_,g2,rfl,by omega,A0 S l2,?_,((z.take k).append ab).append (z.drop _),w6,?_⟩,by simp only [iAt,aH];omega⟩
   ·simp only [aN,aF,aS];omega
   ·rw [aX (by omega),cC,H6,aF,aI (by omega),aj]
    have:a.take (k+bn)=a.take en:=by
     rw [hen]
     by_cases Q:a.length<=k+bn
     ·rw [aI Q,aV,aM Q]
     ·rw [dM (by omega)]
    rw [this,<- O,T];grind
  have tr:=Cp (K:=fun r q=>∃ (t36A:Option bN) (t36n:Nat) (t36c:Nat),r= .slice t36A t36n t36c/\Heap.le H q/\aY prog C9 #[.slice t36A t36n t36c,.slice B bn bc] q (fun r1 d=>∃ (t38A:Option bN) (t38n:Nat) (t38c:Nat),r1= .slice t38A t38n t38c/\Heap.le q d/\aY prog Q7 #[.slice (J4 (some ⟨b,0,none⟩) (a.length+bn) k 1) (a.length+bn-k) (a.length+bn-k),.slice t38A t38n t38c] d (fun r2 s=>r2= .tuple #[]/\(∃ (k_1:Nat) (zs:List Int) (g:bJ),[I ((k+bn:Nat):Int)]=[I k_1]/\k_1<=a.length+bn/\h.le g/\zs.length=a.length+bn/\Dig b64 zs/\Win .u64 s g b C0 (some ⟨b,0,none⟩) [] zs []/\val b64 zs=val b64 (a.take k_1)*y)/\a.length+bn-(iAt [I ((k+bn:Nat):Int)] 0).toNat<a.length+bn-(iAt [I k] 0).toNat))) (ac:=ac-k) (sp.mono w.le) (by omega) (by omega) (fun m hm p u=>⟨_,_,_,rfl,B3 _,G m (by omega) p u⟩)
  rw [aa] at tr
  exact tr
 ·have ad:a.take k=a:=aM (by omega)
  rw [ad] at X
  rw [<- V]
  refine M0 w.sl z (bD _) (by omega) ?_
  intro m hm hM
  rw [X] at hM
  exact ⟨_,_,_,rfl,hK _ _ _ _ (A0 S w.le) hm hM⟩
def C3r{X0 X1 Y0 Y1 P:Int}(hx0:0<=X0)(hx1:0<=X1)(hy0:0<=Y0)(hy1:0<=Y1):
 X0*Y0<=(X0+X1)*(Y0+Y1)/\X1*Y1<=(X0+X1)*(Y0+Y1)-X0*Y0/\(X0+P*X1)*(Y0+P*Y1)=X0*Y0+P*((X0+X1)*(Y0+Y1)-X0*Y0-X1*Y1)+P*P*(X1*Y1):=by
 have a:=aQ hx0 hy0
 have b:=aQ hx0 hy1
 have c:=aQ hx1 hy0
 have d:=aQ hx1 hy1
 have e:(X0+X1)*(Y0+Y1)=X0*Y0+X0*Y1+X1*Y0+X1*Y1:=by grind
 refine ⟨by omega,by omega,?_⟩
 rw [e];grind
def C1t:∀ N,C0l N:=by
 intro N
 induction N with
 | zero=>
  intro h K A B ac bc an bn x y hN ma mb ha M hl w D
  have h0:=ma.len_zero (by decide)
  have hx:x=0:=h0.2 (by omega)
  subst hx
  rw [dQ] at D
  refine Dk _ _ _ _ _ _ ?_
  unfold Cm
  refine ⟨fun l h'=>h'=h/\l=[.slice A an ac,.slice B bn bc],B4 (fun e=>absurd e (by omega)) (fun _=>⟨rfl,rfl⟩),?_⟩
  rintro A1 u c1 B1 E c2 hp ⟨rfl,hl⟩
  obtain ⟨⟨rfl,rfl,rfl⟩,rfl,rfl,rfl⟩:(A1=A/\u=an/\c1=ac)/\B1=B/\E=bn/\c2=bc:=by simpa using hl
  refine D9 (fun _=>D none 0 0 _ (B3 _) (bD _) Mag.zero) (fun e=>absurd (by omega) e)
 | succ N ih=>
  intro h K A B ac bc an bn x y hN ma mb ha M hl w D
  refine Dk _ _ _ _ _ _ ?_
  unfold Cm
  refine ⟨fun l h'=>h'=h/\∃ (A1 B1:Option bN) (u E c1 c2:Nat) (x1 y1:Int),l=[.slice A1 u c1,.slice B1 E c2]/\Mw h A1 u x1/\Mw h B1 E y1/\E<=u/\u<=1000000000/\u<=c1/\E<=c2/\u+E<=N+1/\x1*y1=x*y,B4 (fun h1=>?_) (fun h1=>?_),?_⟩
  ·exact ⟨rfl,_,_,_,_,_,_,y,x,rfl,mb,ma,by omega,w,M,ha,by omega,aP _ _⟩
  ·exact ⟨rfl,_,_,_,_,_,_,x,y,rfl,ma,mb,by omega,hl,ha,M,by omega,rfl⟩
  clear ma mb ha M hl w hN
  rintro A1 u c1 B1 E c2 hp ⟨rfl,A1',B1',bf,bg,bb,bu,x1,y1,a1,m1,W,hn,ay,F,ab,co,ai⟩
  obtain ⟨⟨rfl,rfl,rfl⟩,rfl,rfl,rfl⟩:(A1=A1'/\u=bf/\c1=bb)/\B1=B1'/\E=bg/\c2=bu:=by simpa using a1
  rw [<- ai] at D
  clear a1 ai
  have hz:=W.len_zero (by decide)
  refine D9 (fun h0=>?_) (fun h0=>?_)
  ·have:y1=0:=hz.2 (by omega)
   subst this
   rw [eJ] at D
   exact D none 0 0 _ (B3 _) (bD _) Mag.zero
  ·refine ⟨fun l h'=>∃ t:Bool,h'=hp/\l=[.bool t]/\(t=true->y1=1),D9 (fun h1=>?_) (fun h1=>⟨false,rfl,rfl,fun e=>by cases e⟩),?_⟩
   ·obtain ⟨g,aa,sy,Q,ny,br⟩:=W
    refine sy.load aa (by omega) (by omega) ⟨_,rfl,rfl,fun e=>?_⟩
    have e1:g.getD 0 0=1:=by simpa using e
    obtain ⟨d,rfl⟩:∃ d,g=[d]:=by
     cases g with
     | nil=>simp at aa;omega
     | cons d r=>
      cases r with
      | nil=>exact ⟨d,rfl⟩
      | cons _ _=>simp at aa;omega
    rw [<- br,S9];simpa using e1
   rintro tb V ⟨t',rfl,w,R⟩
   obtain rfl:tb=t':=by simpa using w
   refine Br.of (fun e=>?_) (fun _=>?_)
   ·rw [R e,Int.mul_one] at D
    exact D _ _ _ _ (B3 _) F m1
   clear R w
   have eL:B5 ((u:Int)+E)=((u+E:Nat):Int):=by rw [B6 (by omega) (by omega)];omega
   refine B4 (fun h2=>?_) (fun h2=>?_)
   ·obtain ⟨k,rfl,sx,X,nx,rfl⟩:=m1
    obtain ⟨g,rfl,sy,Q,ny,rfl⟩:=W
    rw [eL]
    refine I3 O8 (by omega) (by omega) (by omega) ?_
    intro b M
    rw [aC]
    exact ⟨_,_,_,rfl,B95 M sx X sy Q ay (by omega) D⟩
   ·obtain ⟨H,hH⟩:∃ H,H=(u+1)/2:=⟨_,rfl⟩
    have eH:B5 (dE (B5 ((u:Int)+1)) 2)=(H:Int):=by
     rw [B6 (n:=(u:Int)+1) (by omega) (by omega),bB (by omega),B6 (by omega) (by omega)];omega
    have bj:B5 ((2:Int)*(H:Int))=((2*H:Nat):Int):=by rw [B6 (by omega) (by omega)];omega
    simp only [eH,eL,bj,aC]
    refine B4 (fun h3=>?_) (fun h3=>?_)
    ·refine Na ih (by omega) m1 W F ab ay (by omega) (by omega) ?_
     intro A' m c' h' l' k' M'
     exact ⟨_,_,_,rfl,D _ _ _ _ l' k' M'⟩
    ·have ba:=m1.nonneg (by decide)
     have a0:=m1.lt (by decide)
     have a2:=W.lt (by decide)
     have be:=W.nonneg (by decide)
     obtain ⟨k,rfl,sx,X,nx,rfl⟩:=m1
     obtain ⟨g,rfl,sy,Q,ny,rfl⟩:=W
     have bw:H<k.length:=by omega
     have bo:H<g.length:=by omega
     have a6:=C5 (by decide) (X.take H)
     have a7:=C5 (by decide) (X.drop H)
     have az:=C5 (by decide) (Q.take H)
     have a8:=C5 (by decide) (Q.drop H)
     have bq:=E7 b64 k (i:=H) (by omega)
     have b5:=E7 b64 g (i:=H) (by omega)
     have ag:=I5 (by decide) (X.take H)
     have a9:=I5 (by decide) (Q.take H)
     rw [aF,aI (by omega)] at ag a9
     have z:Mw V (J4 A1 c1 H 1) (k.length-H) (val b64 (k.drop H)):=by
      have:=Mw.of (Yw sx (c:=c1) (l:=H) (by omega) F) (X.drop H) (Kf nx bw)
      rwa [aS] at this
     have C:Mw V (J4 B1 c2 H 1) (g.length-H) (val b64 (g.drop H)):=by
      have:=Mw.of (Yw sy (c:=c2) (l:=H) (by omega) ab) (Q.drop H) (Kf ny bo)
      rwa [aS] at this
     obtain ⟨ka,kb,kc⟩:=C3r (P:=b64^H) a6 a7 az a8
     rw [<- bq,<- b5] at kc
     generalize hX0:val b64 (k.take H)=X0 at *
     generalize hX1:val b64 (k.drop H)=X1 at *
     generalize hY0:val b64 (g.take H)=Y0 at *
     generalize hY1:val b64 (g.drop H)=Y1 at *
     rw [H1,H1,bV,bV,bV]
     refine ⟨⟨by omega,by omega⟩,⟨by omega,by omega⟩,?_⟩
     refine Hc (Hv sx (c:=c1) (m:=H) (by omega) F) (X.take H) (by rw [aF];omega) hX0 (by omega) (by omega) ?_
     intro mx ch MX0
     refine ⟨_,_,_,rfl,B3 _,⟨by omega,by omega⟩,⟨by omega,by omega⟩,?_⟩
     refine Hc (Hv sy (c:=c2) (m:=H) (by omega) ab) (Q.take H) (by rw [aF];omega) hY0 (by omega) (by omega) ?_
     intro my cn MY0
     refine ⟨_,_,_,rfl,B3 _,?_⟩
     refine ih (by omega) MX0 MY0 (by omega) (by omega) (by omega) (by omega) ?_
     intro A3 n3 c3 g3 l3 k3 M3
     refine ⟨_,_,_,rfl,?_⟩
     refine ih (by omega) (z.mono l3) (C.mono l3) (by omega) (by omega) (by omega) (by omega) ?_
     intro A4 n4 c4 g4 l4 k4 M4
     refine ⟨_,_,_,rfl,?_⟩
     have J:=A0 l3 l4
     refine O4 (MX0.mono J) (z.mono J) (by omega) (by omega) (by omega) (by omega) ?_
     intro A5 n5 c5 g5 l5 k5 M5
     refine ⟨_,_,_,rfl,?_⟩
     have a5:=A0 J l5
     refine O4 (MY0.mono a5) (C.mono a5) (by omega) (by omega) (by omega) (by omega) ?_
     intro A6 n6 c6 g6 l6 k6 M6
     refine ⟨_,_,_,rfl,?_⟩
     have ap:=z.lt (by decide)
     have aw:=C.lt (by decide)
     have b0:=D6 (B:=b64) (by decide) H
     have cc:b64^(H+1)=b64^H*18446744073709551616:=aZ _ _
     have ce:n5<=H+1:=by
      refine M5.len_le (by decide) ?_
      have:=D5 (B:=b64) (by decide) (show k.length-H<=H by omega)
      omega
     have b8:n6<=H+1:=by
      refine M6.len_le (by decide) ?_
      have:=D5 (B:=b64) (by decide) (show g.length-H<=H by omega)
      omega
     refine ih (by omega) (M5.mono l6) M6 k5 k6 (by omega) (by omega) ?_
     intro A7 n7 c7 g7 l7 k7 M7
     refine ⟨_,_,_,rfl,?_⟩
     have ad:=A0 (A0 l5 l6) l7
     have o:∀ {p q:Int} {i j:Nat},0<=p->p<b64^i->0<=q->q<b64^j->p*q<b64^(i+j):=by
      intro p q i j a b c d
      rw [aW]
      have t1:p*q<=b64^i*q:=aD (by omega) c
      have t2:b64^i*q<b64^i*b64^j:=bX d (D6 (by decide) i)
      omega
     have cb:n7<=n5+n6:=M7.len_le (by decide) (o (M5.nonneg (by decide)) (M5.lt (by decide)) (M6.nonneg (by decide)) (M6.lt (by decide)))
     refine G0 M7 (M3.mono (A0 l4 ad)) k7 (by omega) ka ?_
     intro A8 n8 c8 g8 l8 k8 M8
     refine ⟨_,_,_,rfl,?_⟩
     have ca:n8<=n7:=M8.len_le (by decide) (by have:=M7.lt (by decide);have:=M3.nonneg (by decide);omega)
     refine G0 M8 (M4.mono (A0 ad l8)) k8 (by omega) kb ?_
     intro A9 n9 c9 g9 l9 k9 M9
     refine ⟨_,_,_,rfl,?_⟩
     have T:=A0 ad (A0 l8 l9)
     have aj:V.le g9:=A0 J T
     refine I3 O8 (by omega) (by omega) (by omega) ?_
     intro b M
     rw [aC]
     refine ⟨_,_,_,rfl,?_⟩
     have w0:=Win.blk .u64 C0 M (aE (k.length+g.length) 0)
     have cf:n3<=H+H:=M3.len_le (by decide) (o a6 ag az a9)
     have b9:n4<=(k.length-H)+(g.length-H):=M4.len_le (by decide) (o a7 ap a8 aw)
     obtain ⟨s,af,bv,b4,ck,aq⟩:=M3.mono (A0 l4 T)
     obtain ⟨hi,ar,bd,bh,ci,a3⟩:=M4.mono T
     obtain ⟨O,ak,ax,a4,b7,ah⟩:=M9
     refine Eo O8 w0 (by simp) (bv.mono w0.le) af (by simp;omega) ?_
     intro cq ae
     refine ⟨_,rfl,⟨by omega,by omega⟩,?_⟩
     have bl:s++(aE (k.length+g.length) (0:Int)).drop s.length=s++aE (k.length+g.length-s.length) 0:=by rw [bA]
     rw [bl] at ae
     have Z:=ae.sub (l:=2*H) (m:=k.length+g.length) (c:=k.length+g.length) (by omega) (by simp;omega) (by simp;omega)
     have bp:((s++aE (k.length+g.length-s.length) (0:Int)).drop (2*H)).take (k.length+g.length-2*H)=aE (k.length+g.length-2*H) 0:=by
      rw [eQ,aX (by omega),cA,bA,cF]
      congr 1;omega
     rw [bp] at Z
     refine Eo O8 Z (by simp) (bd.mono Z.le) ar (by simp;omega) ?_
     intro cm ao
     refine ⟨_,rfl,⟨by omega,by omega⟩,?_⟩
     rw [bA] at ao
     have L:=ae.whole (l:=2*H) (m:=k.length+g.length) (by omega) (by simp;omega) (by simp;omega) ao
     have b6:(s++aE (k.length+g.length-s.length) (0:Int)).take (2*H)=s++aE (2*H-s.length) 0:=by
      rw [List.take_append,aM (by omega),cF]
      congr 2;omega
     have bm:(s++aE (k.length+g.length-s.length) (0:Int)).drop (k.length+g.length)=[]:=by
      apply aX;simp;omega
     rw [b6,bm,cC] at L
     generalize hzs:s++aE (2*H-s.length) (0:Int)++(hi++aE (k.length+g.length-2*H-hi.length) 0)=zs at L
     have cg:zs.length=k.length+g.length:=by
      rw [<- hzs];simp;omega
     have G:Dig b64 zs:=by
      rw [<- hzs]
      exact (b4.append (G4 (by decide) _)).append (bh.append (G4 (by decide) _))
     have bk:val b64 zs=X0*Y0+b64^H*b64^H*(X1*Y1):=by
      rw [<- hzs,H6,Bm,Bm,aq,a3]
      have:(s++aE (2*H-s.length) (0:Int)).length=H+H:=by simp;omega
      rw [this,aW]
     have al:=L.sub (l:=H) (m:=k.length+g.length) (c:=k.length+g.length) (by omega) (by omega) (by omega)
     have bz:(zs.drop H).take (k.length+g.length-H)=zs.drop H:=aM (by rw [aS];omega)
     have am:(zs.drop H).length=k.length+g.length-H:=by rw [aS];omega
     rw [bz] at al
     have b1:=E7 b64 zs (i:=H) (by omega)
     have cr:=C5 (by decide) (G.take H)
     have cd:=C5 (by decide) (G.drop H)
     have cp:val b64 k*val b64 g<b64^(k.length+g.length):=o ba a0 be a2
     have au:val b64 zs+b64^H*val b64 O=val b64 k*val b64 g:=by rw [kc,bk,ah];grind
     have av:val b64 (zs.drop H)+val b64 O<b64^(k.length+g.length-H):=by
      have e5:b64^(k.length+g.length)=b64^H*b64^(k.length+g.length-H):=by rw [<- aW];congr 1;omega
      by_cases hc:val b64 (zs.drop H)+val b64 O<b64^(k.length+g.length-H)
      ·exact hc
      ·have:=aG (show b64^(k.length+g.length-H)<=val b64 (zs.drop H)+val b64 O by omega) (aL b0)
       rw [cI] at this
       omega
     have cs:O.length<=k.length+g.length-H:=by
      have Mmi:Mw g9 A9 O.length (val b64 O):=⟨O,rfl,ax,a4,b7,rfl⟩
      exact Mmi.len_le (by decide) (by omega)
     refine Gt al am.symm ax ak (G.drop H) a4 (by omega) (by rw [am];exact av) (by omega) ?_
     intro us cj cl b2 bt bx
     refine ⟨rfl,?_⟩
     have S:=L.whole (l:=H) (m:=k.length+g.length) (by omega) (by omega) (by omega) bx
     rw [aX (show zs.length<=k.length+g.length by omega),cC] at S
     have b3:(zs.take H++us).length=k.length+g.length:=by
      simp only [aN,aF];omega
     rw [<- b3]
     refine M0 S.sl ((G.take H).append b2) (by omega) (by omega) ?_
     intro m hm hM
     have bi:val b64 (zs.take H++us)=val b64 k*val b64 g:=by
      rw [H6,aF,aI (by omega),bt,<- au,b1];grind
     rw [bi] at hM
     exact ⟨_,_,_,rfl,D _ _ _ _ (A0 aj S.le) hm hM⟩
def G1{x y:Int}{an bn:Nat}(ma:Mw h A an x)(mb:Mw h B bn y)(ha:an<=ac)(hb:bn<=bc)(hl:an<=1000000000)(hl2:bn<=1000000000)(hK:∀ A' m c' h',h.le h'->m<=c'->Mw h' A' m (x*y)->K (.slice A' m c') h'):aY prog C9 #[.slice A an ac,.slice B bn bc] h K:=
 C1t _ (bD _) ma mb ha hb hl hl2 hK
end
section
variable {h g:bJ} {K:VP} {A B:Option bN} {ac bc:Nat}
def B03{hi lo y:Int}(hhi:0<=hi/\hi<y)(hlo:0<=lo/\lo<18446744073709551616)(hy:y<18446744073709551616)
 (hK:K (.tuple #[U ((hi*18446744073709551616+lo)/y),U ((hi*18446744073709551616+lo)%y)]) h):aY prog El #[U hi,U lo,U y] h K:=by
 obtain ⟨n,rfl⟩:∃ n:Nat,y=n:=⟨y.toNat,by omega⟩
 exact Qi hhi hlo (by omega) hK
def Sj{x:Int}{an w:Nat}(ma:Mw h A an x)(hw:0<w/\w<18446744073709551616)(hl:an<=1000000000)(hK:∀ A' m c' h',h.le h'->m<=c'->m<=an->Mw h' A' m (x/w)->K (.tuple #[.slice A' m c',U (x%w)]) h'):aY prog Ea #[.slice A an ac,U w] h K:=by
 obtain ⟨a,rfl,G,C,J,rfl⟩:=ma
 refine Uk _ _ _ _ ?_
 unfold Tk
 refine I3 O8 (by omega) (by omega) (by omega) ?_
 intro b z
 rw [aC]
 refine ⟨_,_,_,rfl,?_⟩
 refine ⟨fun l h'=>∃ (k:Nat) (r:Int) (zs:List Int),l=[U r,I ((k:Int)-1)]/\k<=a.length/\zs.length=a.length/\Dig b64 zs/\(0<=r/\r<w)/\h'=blk .u64 C0 h b zs/\val b64 (a.drop k)=val b64 (zs.drop k)*w+r,fun l _=>(iAt l 1+1).toNat,⟨a.length,0,_,by rw [B6 (by omega) (by omega)],by omega,by simp,G4 (by decide) _,by omega,rfl,by simp [val]⟩,?_⟩
 rintro r i M ⟨k,H,zs,q,L,c,y,d,rfl,g⟩
 obtain ⟨rfl,rfl⟩:r=H/\i=(k:Int)-1:=by simpa using q
 have n:=S3 (k:=.u64) (e:=C0) z zs
 refine B4 (fun D=>?_) (fun D=>?_)
 ·obtain ⟨j,rfl⟩:∃ j,k=j+1:=⟨k-1,by omega⟩
  have e:((j+1:Nat):Int)-1=(j:Int):=by omega
  rw [e]
  have E:=L6 C j
  refine (G.mono n).load rfl (by omega) (by omega) ?_
  rw [aC]
  refine Qi d E hw.2 ⟨_,_,rfl,?_⟩
  have B:0<=r*18446744073709551616+a.getD j 0:=by omega
  have s:0<=(r*18446744073709551616+a.getD j 0)/w/\(r*18446744073709551616+a.getD j 0)/w<18446744073709551616:=by
   constructor
   ·exact bM B (by omega)
   ·apply bC (by omega)
    have:(r+1)*18446744073709551616<=(w:Int)*18446744073709551616:=aD (by omega) (by decide)
    omega
  refine ⟨_,rfl,by omega,by omega,?_⟩
  refine Dh (zs:=zs) (i:=j) F0 (by omega) ?_
  rw [B6 (by omega) (by omega)]
  refine ⟨⟨j,_,zs.set j ((r*18446744073709551616+a.getD j 0)/w),rfl,by omega,by simpa using c,y.set s,⟨aR _ (by omega),aJ _ (by omega)⟩,rfl,?_⟩,by simp only [iAt,aH,aO];omega⟩
  rw [S2 (by omega),Js b64 (by omega),g]
  have:=aK (r*18446744073709551616+a.getD j 0) w
  simp only [val]
  grind
 ·have o:k=0:=by omega
  subst o
  rw [fA,fA] at g
  rw [<- c]
  refine M0 (Cd _ _ _ _ _) y (bD _) (by omega) ?_
  intro m F u
  have s:val b64 a/w=val b64 zs:=by
   rw [g,dT,dS _ _ (by omega),bK d.1 d.2,cO]
  have p:val b64 a%w=r:=by
   rw [g,dT,eX,eM d.1 d.2]
  rw [<- s] at u
  rw [<- p]
  exact ⟨_,_,_,rfl,hK _ _ _ _ (S3 z _) F (by omega) u⟩
def Kc{x:Int}{an w:Nat}(ma:Mw h A an x)(hw:0<w/\w<18446744073709551616)(hl:an<=1000000000)(hK:K (U (x%w)) h):aY prog Y6 #[.slice A an ac,U w] h K:=by
 obtain ⟨a,rfl,o,q,B,rfl⟩:=ma
 refine Nu _ _ _ _ ?_
 unfold Im
 refine ⟨fun l s=>∃ (k:Nat) (r:Int) (Q:Int),l=[U r,I ((k:Int)-1)]/\k<=a.length/\(0<=r/\r<w)/\s=h/\val b64 (a.drop k)=Q*w+r,fun l _=>(iAt l 1+1).toNat,⟨a.length,0,0,by rw [B6 (by omega) (by omega)],by omega,by omega,rfl,by simp [val]⟩,?_⟩
 rintro r i z ⟨k,p,Q,d,y,m,rfl,c⟩
 obtain ⟨rfl,rfl⟩:r=p/\i=(k:Int)-1:=by simpa using d
 refine B4 (fun u=>?_) (fun u=>?_)
 ·obtain ⟨j,rfl⟩:∃ j,k=j+1:=⟨k-1,by omega⟩
  have e:((j+1:Nat):Int)-1=(j:Int):=by omega
  rw [e]
  have n:=L6 q j
  refine o.load rfl (by omega) (by omega) ?_
  rw [aC]
  refine Qi m n hw.2 ⟨_,_,rfl,?_⟩
  rw [B6 (by omega) (by omega)]
  refine ⟨⟨j,_,b64*Q+(r*18446744073709551616+a.getD j 0)/w,rfl,by omega,⟨aR _ (by omega),aJ _ (by omega)⟩,rfl,?_⟩,by simp only [iAt,aH,aO];omega⟩
  rw [Js b64 (by omega),c]
  have:=aK (r*18446744073709551616+a.getD j 0) w
  show _+(18446744073709551616:Int)*_=((18446744073709551616:Int)*_+_)*_+_
  grind
 ·have g:k=0:=by omega
  subst g
  rw [fA] at c
  have b:val b64 a%w=r:=by
   rw [c,dT,eX,eM m.1 m.2]
  rw [b] at hK;exact hK
def Ys{us vs:List Int}{m wn dn:Nat}{X Y:Int}(su:SlI .u64 h A us)(sv:SlI .u64 h B vs)(hwn:wn=us.length)(hdn:dn=vs.length)(du:Dig b64 us)(dv:Dig b64 vs)(hu:us.length=m+3)(hv:vs.length=m+2)(hl:m<=10000000000)(h1:b64<=2*vs.getD (m+1) 0)(hX:val b64 us=X)(hY:val b64 vs=Y)(hlt:X<Y*b64)
 (hK:∀ q,0<=q->q<18446744073709551616->X<(q+1)*Y->(q-1)*Y<=X->K (U q) h):aY prog Jg #[.slice A wn ac,.slice B dn bc] h K:=by
 subst hwn hdn
 have b:=B5h (B:=b64) (by decide) du dv hu hv h1 (by rw [hX,hY];exact hlt)
 rw [hX,hY] at b
 have gu:=L6 du (m+2)
 have j:=L6 du (m+1)
 have gv:=L6 dv (m+1)
 have p:=b.v1r
 have a:=b.v2r
 have ad:=b.u2r
 have O:=b.V0
 have aa:=b.U0
 refine A23 _ _ _ _ _ _ ?_
 unfold A24
 have N:B5 ((vs.length:Int)-1)=((m+1:Nat):Int):=by rw [B6 (by omega) (by omega)];omega
 have Q:B5 ((vs.length:Int)-2)=(m:Int):=by rw [B6 (by omega) (by omega)];omega
 have e3:((vs.length:Nat):Int)=((m+2:Nat):Int):=by omega
 rw [N,Q,e3]
 refine sv.load (by omega) (by omega) (by omega) ?_
 refine sv.load (by omega) (by omega) (by omega) ?_
 refine su.load rfl (by omega) (by omega) ?_
 simp only [aC]
 refine B4 (fun L=>?_) (fun L=>?_)
 ·have J:=b.top (by
   have:vs.getD (m+1) 0*b64<=us.getD (m+2) 0*b64:=aD L (by decide)
   omega)
  exact hK 18446744073709551615 (by omega) (by omega) J.2 J.1
 ·refine su.load rfl (by omega) (by omega) ?_
  refine su.load rfl (by omega) (by omega) ?_
  simp only [aC]
  refine B03 (by omega) j gv.2 ⟨_,_,rfl,B3 h,?_⟩
  generalize hT:us.getD (m+2) 0*b64+us.getD (m+1) 0=T at b
  have W:us.getD (m+2) 0*18446744073709551616+us.getD (m+1) 0=T:=hT
  have D:0<=T:=b.top0
  have F:=b.init
  have y:=aK T (vs.getD (m+1) 0)
  have M:=aR T (show vs.getD (m+1) 0≠0 by omega)
  have R:=aJ T (show 0<vs.getD (m+1) 0 by omega)
  have H:0<=T/vs.getD (m+1) 0:=bM D (by omega)
  have k:T/vs.getD (m+1) 0<18446744073709551616:=by
   apply bC (by omega)
   have:(us.getD (m+2) 0+1)*18446744073709551616<=vs.getD (m+1) 0*18446744073709551616:=aD (by omega) (by decide)
   have:=j.2
   have:18446744073709551616*vs.getD (m+1) 0=vs.getD (m+1) 0*18446744073709551616:=aP _ _
   omega
  refine ⟨fun l S=>∃ q r:Int,l=[U q,U r]/\S=h/\(0<=q/\q<18446744073709551616)/\(0<=r/\r<18446744073709551616)/\q*vs.getD (m+1) 0+r=T/\X<(q+1)*Y,fun l _=>(iAt l 0).toNat,⟨_,_,rfl,rfl,⟨H,k⟩,by omega,by rw [aP];exact y,F⟩,?_⟩
  rintro q r w ⟨q',r',G,rfl,s,hr,C,o⟩
  obtain ⟨rfl,rfl⟩:q=q'/\r=r':=by simpa using G
  have hm:0<=q*vs.getD m 0/\q*vs.getD m 0<=18446744073709551615*18446744073709551615:=⟨aQ s.1 a.1,dG (by omega) (by have:=(L6 dv m).2;omega) a.1 (by decide)⟩
  have key:q*(vs.getD (m+1) 0*b64+vs.getD m 0)=(T-r)*18446744073709551616+q*vs.getD m 0:=by
   rw [<- C];show q*(vs.getD (m+1) 0*(18446744073709551616:Int)+vs.getD m 0)=_;grind
  have e:q*vs.getD m 0<=r*18446744073709551616+us.getD m 0->K (U q) w:=by
   intro ab
   refine hK q s.1 s.2 o (b.up (by show q<=(18446744073709551616:Int);omega) ?_)
   rw [key];show _<=T*(18446744073709551616:Int)+_;omega
  have g:¬ (q*vs.getD m 0<=r*18446744073709551616+us.getD m 0)->Br (decide (B8 (r+vs.getD (m+1) 0)<vs.getD (m+1) 0)) (K (U (B8 (q-1))) w) ((∃ q_1 r_1:Int,[U (B8 (q-1)),U (B8 (r+vs.getD (m+1) 0))]=[U q_1,U r_1]/\w=w/\(0<=q_1/\q_1<18446744073709551616)/\(0<=r_1/\r_1<18446744073709551616)/\q_1*vs.getD (m+1) 0+r_1=T/\X<(q_1+1)*Y)/\(iAt [U (B8 (q-1)),U (B8 (r+vs.getD (m+1) 0))] 0).toNat<(iAt [U q,U r] 0).toNat):=by
   intro hf
   have E:X<q*Y:=b.low s.1 (by rw [key];show T*(18446744073709551616:Int)+_<_;omega)
   have k:1<=q:=by
    by_cases z:1<=q
    ·exact z
    ·have:q=0:=by omega
     subst this;omega
   have c:X<(q-1+1)*Y:=by rw [Int.sub_add_cancel];exact E
   have d:(q-1)*vs.getD (m+1) 0+(r+vs.getD (m+1) 0)=T:=by grind
   rw [B9 (n:=q-1) (by omega) (by omega)]
   refine B4 (fun u=>?_) (fun u=>?_)
   ·rw [D8] at u
    have hb:(q-1)*vs.getD m 0<=18446744073709551616*vs.getD m 0:=aD (by omega) a.1
    have i:(q-1)*(vs.getD (m+1) 0*b64+vs.getD m 0)=(T-(r+vs.getD (m+1) 0))*18446744073709551616+(q-1)*vs.getD m 0:=by
     rw [<- d];show (q-1)*(vs.getD (m+1) 0*(18446744073709551616:Int)+vs.getD m 0)=_;grind
    refine hK (q-1) (by omega) (by omega) c (b.up (by show q-1<=(18446744073709551616:Int);omega) ?_)
    rw [i]
    have:=a.2
    show _<=T*(18446744073709551616:Int)+_
    have:vs.getD m 0<18446744073709551616:=a.2
    omega
   ·have x:r+vs.getD (m+1) 0<18446744073709551616:=by
     by_cases z:r+vs.getD (m+1) 0<18446744073709551616
     ·exact z
     ·rw [D8] at u;have:=p.2;have:vs.getD (m+1) 0<18446744073709551616:=p.2;omega
    rw [B9 (n:=r+vs.getD (m+1) 0) (by omega) x]
    exact ⟨⟨q-1,r+vs.getD (m+1) 0,rfl,rfl,by omega,by omega,d,c⟩,by simp only [iAt,aH];omega⟩
  refine Kg s (by have:=a.2;exact ⟨a.1,this⟩) ⟨_,_,rfl,?_⟩
  have Z:0<=us.getD m 0/\us.getD m 0<18446744073709551616:=L6 du m
  refine B4 (fun u=>e (by omega)) (fun u=>?_)
  refine D9 (fun h4=>?_) (fun h4=>g (by omega))
  refine su.load rfl (by omega) (by omega) ?_
  rw [aC]
  exact B4 (fun V=>e (by omega)) (fun V=>g (by omega))
end
section
variable {h g:bJ} {K:VP} {bu bq:Nat} {pre qs:List Int} {VA:Option bN} {vs:List Int}
def B9x{n N:Nat}{ws:List Int}{q:Int}{J:LP}(hu:g bu=none)(hq:g bq=none)(hne:bu≠bq)(sv:SlI .u64 g VA vs)(dv:Dig b64 vs)(hn:n=vs.length)(dw:Dig b64 ws)(hN:N=(pre++ws).length)(hl:n<ws.length)(hbig:N<=4000000000)
 (hD:val b64 (ws.take n)+val b64 vs<2*b64^n) (hD0:b64^n<=val b64 (ws.take n)+val b64 vs) (htop:ws.getD n 0=18446744073709551615)
 (hJ:∀ ws',ws'.length=ws.length->Dig b64 ws'->ws'.drop (n+1)=ws.drop (n+1)->ws'.getD n 0=0->val b64 (ws'.take n)=val b64 (ws.take n)+val b64 vs-b64^n->J [U (B8 (q-1))] (X8 .u64 C0 g bu (pre++ws') bq qs)):
 Y9 prog n VA n (some ⟨bu,0,none⟩) N (pre.length:Int) q J (X8 .u64 C0 g bu (pre++ws) bq qs):=by
 unfold Y9
 refine ⟨fun l L=>∃ (k:Nat) (c:Int) (zs:List Int),l=[U c,I k]/\k<=n/\zs.length=ws.length/\Dig b64 zs/\(0<=c/\c<=1)/\L=X8 .u64 C0 g bu (pre++zs) bq qs/\zs.drop k=ws.drop k/\val b64 (zs.take k)+c*b64^k=val b64 (ws.take k)+val b64 (vs.take k),fun l _=>n-(iAt l 1).toNat,⟨0,0,ws,rfl,by omega,rfl,dw,by omega,rfl,rfl,by simp [val]⟩,?_⟩
 rintro c i X ⟨k,S,zs,C,W,d,p,F,rfl,a,H⟩
 obtain ⟨rfl,rfl⟩:c=S/\i=(k:Int):=by simpa using C
 have u:g.le (X8 .u64 C0 g bu (pre++zs) bq qs):=Ns hu hq hne
 have D:SlI .u64 (X8 .u64 C0 g bu (pre++zs) bq qs) (some ⟨bu,0,none⟩) (pre++zs):=Su hne
 have b:N=(pre++zs).length:=by rw [hN,aN,aN,d]
 have R:N=pre.length+zs.length:=by rw [b,aN]
 have B:B5 ((pre.length:Int)+k)=((k+pre.length:Nat):Int):=by rw [B6 (by omega) (by omega)];omega
 have s:B5 ((pre.length:Int)+n)=((n+pre.length:Nat):Int):=by rw [B6 (by omega) (by omega)];omega
 refine B4 (fun M=>?_) (fun M=>?_)
 ·have T:=L6 dv k
  have E:=L6 p k
  have j:=E2 a
  have O:=C2 b64 vs k
  have Q:=C2 b64 ws k
  rw [B]
  refine (sv.mono u).load hn (by omega) (by omega) ?_
  refine D.load b (by omega) (by omega) ?_
  simp only [aC,Dy]
  refine Es E T F ⟨_,_,rfl,?_⟩
  refine ⟨_,rfl,by omega,by omega,?_⟩
  have o:=L5 (P:=prog) (t:=C0) (k:=.u64) (e:=C0) (g:=g) (bu:=bu) (bq:=bq) (us:=pre++zs) (qs:=qs) (i:=((k+pre.length:Nat):Int)) (n:=(zs.getD k 0+vs.getD k 0+c)%18446744073709551616) F0 hne (by rw [aC];omega)
   (K:=fun _ m=>(∃ (k_1:Nat) (c_1:Int) (zs_1:List Int),[U ((zs.getD k 0+vs.getD k 0+c)/18446744073709551616),I (B5 ((k:Int)+1))]=[U c_1,I k_1]/\k_1<=n/\zs_1.length=ws.length/\Dig b64 zs_1/\(0<=c_1/\c_1<=1)/\m=X8 .u64 C0 g bu (pre++zs_1) bq qs/\zs_1.drop k_1=ws.drop k_1/\val b64 (zs_1.take k_1)+c_1*b64^k_1=val b64 (ws.take k_1)+val b64 (vs.take k_1))/\n-(iAt [U ((zs.getD k 0+vs.getD k 0+c)/18446744073709551616),I (B5 ((k:Int)+1))] 1).toNat<n-(iAt [U c,I k] 1).toNat)
  rw [aC] at o
  refine o ?_
  rw [Ir,B6 (n:=(k:Int)+1) (by omega) (by omega)]
  refine ⟨⟨k+1,_,zs.set k ((zs.getD k 0+vs.getD k 0+c)%18446744073709551616),rfl,by omega,by simpa using d,p.set (Dw _),by omega,rfl,?_,?_⟩,by simp only [iAt,aH,aO];omega⟩
  ·rw [D3 (by omega)];exact D7 a
  ·rw [C6 (by omega),E5,aF,aI (by omega),aZ,Ao,O,Q,<- j]
   grind
 ·have x:k=n:=by omega
  subst x
  have j:=E2 a
  rw [s]
  refine D.load b (by omega) (by omega) ?_
  rw [aC,Dy,j,htop]
  refine ⟨_,rfl,by omega,by omega,?_⟩
  have z:vs.take k=vs:=by rw [hn,aV]
  rw [z] at H
  have y:=I5 (by decide) (p.take k)
  rw [aF,aI (by omega)] at y
  have V:=C5 (by decide) (p.take k)
  have A:c=1:=by
   by_cases w:c=0
   ·subst w;omega
   ·omega
  subst A
  have G:B8 (18446744073709551615+1)=0:=by rw [D8];omega
  rw [G]
  have o:=L5 (P:=prog) (t:=C0) (k:=.u64) (e:=C0) (g:=g) (bu:=bu) (bq:=bq) (us:=pre++zs) (qs:=qs) (i:=((k+pre.length:Nat):Int)) (n:=0) F0 hne (by rw [aC];omega) (K:=fun _ r=>J [U (B8 (q-1))] r)
  rw [aC] at o
  refine o ?_
  rw [Ir]
  refine hJ (zs.set k 0) (by simpa using d) (p.set (by decide)) (by rw [D3 (by omega)];exact D7 a) (by simp [cK,show k<zs.length by omega]) ?_
  rw [List.take_set_of_le (by omega)]
  omega
end
def B2k{g h':bJ}{e:cH}{bu bq:Nat}{A:Option bN}{us qs:List Int}(hne:bu≠bq)(w:Win .u64 h' (blk .u64 e g bq qs) bu e A [] us []):h'=X8 .u64 e g bu us bq qs:=by
 rw [Gs hne,w.eq]
 simp [blk]
def B41{g:bJ}{e:cH}{bu bq:Nat}{us qs:List Int}(hu:g bu=none)(hne:bu≠bq):Win .u64 (X8 .u64 e g bu us bq qs) (blk .u64 e g bq qs) bu e (some ⟨bu,0,none⟩) [] us []:=by
 rw [Gs hne]
 refine Win.blk .u64 e ?_ us
 unfold blk;rw [B7 _ _ hne];exact hu
def A1o{P:dD}{t:cH}{k:cV}{e:cH}{g:bJ}{bu bq:Nat}{us qs:List Int}(one:P.cellsOf t=1/\(P.info? t).isSome=true)(hne:bu≠bq){n:Int}{i:Nat}(hi:i<us.length){K:Unit->bJ->Prop}
 (x:K () (X8 k e g bu (us.set i n) bq qs)):wpH P (dK t (.pointer (some (eC ⟨bu,0,none⟩ (i*1)))) (.int k n)) K (X8 k e g bu us bq qs):=by
 have:=L5 (P:=P) (t:=t) (k:=k) (e:=e) (g:=g) (bu:=bu) (bq:=bq) (us:=us) (qs:=qs) (i:=(i:Int)) (n:=n) (K:=K) one hne (by simpa using hi) (by simpa using x)
 simpa using this
def A1p{P:dD}{t:cH}{k:cV}{e:cH}{g:bJ}{bu bq:Nat}{us qs:List Int}(one:P.cellsOf t=1/\(P.info? t).isSome=true){n:Int}{i:Nat}(hi:i<qs.length){K:Unit->bJ->Prop}
 (x:K () (X8 k e g bu us bq (qs.set i n))):wpH P (dK t (.pointer (some (eC ⟨bq,0,none⟩ (i*1)))) (.int k n)) K (X8 k e g bu us bq qs):=by
 have:=Sv (P:=P) (t:=t) (k:=k) (e:=e) (g:=g) (bu:=bu) (bq:=bq) (us:=us) (qs:=qs) (i:=(i:Int)) (n:=n) (K:=K) one (by simpa using hi) (by simpa using x)
 simpa using this
section
variable {h g:bJ} {K:VP} {bu bq:Nat} {VA:Option bN} {vs us0:List Int}
set_option maxHeartbeats 1000000 in
def A32{s mm N nq vc xn:Nat}{a b Y:Int}(hu:g bu=none)(hq:g bq=none)(hne:bu≠bq)(sv:SlI .u64 g VA vs)(dv:Dig b64 vs)(hn:vs.length=mm+2)(hv1:b64<=2*vs.getD (mm+1) 0)(hs:s<64)(hY:val b64 vs=Y)(hYb:Y=b*2^s)(du:Dig b64 us0)(hN:us0.length=N)(hua:val b64 us0=a*2^s)(hxn:N=xn+1)(hnq:N=nq+(mm+2))(hnq1:1<=nq)(hbig:N<=1000000001)(htop:val b64 (us0.drop nq)<Y)
 (hK:∀ A1 m1 c1 A2 m2 c2 h',g.le h'->m1<=c1->m2<=c2->Mw h' A1 m1 (a/b)->Mw h' A2 m2 (a%b)->K (.tuple #[.slice A1 m1 c1,.slice A2 m2 c2]) h'):
 Z0 prog xn (mm+2) K (s:Int) VA (mm+2) vc (some ⟨bu,0,none⟩) N N (some ⟨bq,0,none⟩) nq nq (X8 .u64 C0 g bu us0 bq (aE nq 0)):=by
 have hp:0<(2:Int)^s:=bG (by decide)
 have a2:Y<b64^(mm+2):=by rw [<- hY,<- hn];exact I5 (by decide) dv
 have a8:0<Y:=by have:=C5 (by decide) (du.drop nq);omega
 have e0:B5 ((xn:Int)-((mm+2:Nat):Int))=(nq:Int)-1:=by rw [B6 (by omega) (by omega)];omega
 unfold Z0
 refine ⟨fun l h'=>∃ (k:Nat) (us qs:List Int),l=[I ((k:Int)-1)]/\k<=nq/\us.length=N/\qs.length=nq/\Dig b64 us/\Dig b64 qs/\h'=X8 .u64 C0 g bu us bq qs/\val b64 (us.drop k)<Y/\val b64 us0=val b64 (qs.drop k)*Y*b64^k+val b64 us,fun l _=>(iAt l 0+1).toNat,⟨nq,us0,_,by rw [e0],by omega,hN,by simp,du,G4 (by decide) _,rfl,htop,by simp [val]⟩,?_⟩
 rintro j a5 ⟨k,us,qs,ay,hk,F,S,w,af,rfl,av,hv⟩
 obtain rfl:j=(k:Int)-1:=by simpa using ay
 have V:g.le (X8 .u64 C0 g bu us bq qs):=Ns hu hq hne
 have su:SlI .u64 (X8 .u64 C0 g bu us bq qs) (some ⟨bu,0,none⟩) us:=Su hne
 unfold Fa
 refine B4 (fun h1=>?_) (fun h1=>?_)
 ·obtain ⟨j,rfl⟩:∃ j,k=j+1:=⟨k-1,by omega⟩
  have ej:((j+1:Nat):Int)-1=(j:Int):=by omega
  rw [ej]
  have e1:B5 ((j:Int)+((mm+2:Nat):Int))=((j+(mm+2):Nat):Int):=by rw [B6 (by omega) (by omega)];omega
  have e2:B5 (((j+(mm+2):Nat):Int)+1)=((j+(mm+3):Nat):Int):=by rw [B6 (by omega) (by omega)];omega
  simp only [e1,e2,aC]
  have z:=w.drop j
  have D:(us.drop j).length=N-j:=by rw [aS,F]
  have y:val b64 ((us.drop j).drop (mm+3))=0:=by
   have:=Cf (B:=b64) (by decide) (n:=mm+2) (w.drop (j+1)) (by omega)
   rw [cM] at this ⊢
   rw [show j+(mm+3)=j+1+(mm+2) by omega];exact this
  have ar:=A04 b64 us j
  have au:val b64 (us.drop j)<Y*b64:=by
   have bc:=L6 w j
   rw [ar]
   have t1:b64*(val b64 (us.drop (j+1))+1)<=b64*Y:=aG (by omega) (by decide)
   have t2:b64*(val b64 (us.drop (j+1))+1)=b64*val b64 (us.drop (j+1))+18446744073709551616:=by show (18446744073709551616:Int)*_=_;grind
   have t3:Y*b64=b64*Y:=aP _ _
   omega
  have M:=E7 b64 (us.drop j) (i:=mm+3) (by omega)
  rw [y,eJ,eO] at M
  have ai:=F2 b64 (us.drop j) (mm+2)
  have hX:val b64 (us.drop j)=val b64 ((us.drop j).take (mm+2))+b64^(mm+2)*(us.drop j).getD (mm+2) 0:=by rw [M];exact ai
  refine ⟨⟨by omega,by omega⟩,⟨by omega,by omega⟩,?_⟩
  have sw:SlI .u64 (X8 .u64 C0 g bu us bq qs) (J4 (some ⟨bu,0,none⟩) N j 1) ((us.drop j).take (mm+3)):=by
   have:=su.cut (c:=N) (l:=j) (m:=j+(mm+3)) (by omega) (by omega) (by omega)
   rwa [show j+(mm+3)-j=mm+3 by omega] at this
  generalize hXX:val b64 (us.drop j)=X at *
  refine Ys (m:=mm) (X:=X) (Y:=Y) sw (sv.mono V) (by rw [aF,D];omega) hn.symm (z.take _) dv (by rw [aF,D];omega) hn (by omega) hv1 M.symm hY au ?_
  intro q q0 q1 q2 q3
  refine ⟨_,rfl,⟨by omega,by omega⟩,⟨by omega,by omega⟩,?_⟩
  have w0:=B41 (e:=C0) (us:=us) (qs:=qs) hu hne
  have am:SlI .u64 (blk .u64 C0 g bq qs) VA vs:=sv.mono (S3 hq qs)
  have hW:(us.drop j).take (j+(mm+2)-j)=(us.drop j).take (mm+2):=by rw [show j+(mm+2)-j=mm+2 by omega]
  have w1:=w0.sub (l:=j) (m:=j+(mm+2)) (c:=N) (by omega) (by omega) (by omega)
  rw [hW] at w1
  have O:((us.drop j).take (mm+2)).length=mm+2:=by rw [aF,D];omega
  refine Ia w1 (by rw [O];omega) am hn.symm (z.take _) dv (by rw [O,hn]) ⟨q0,q1⟩ (by omega) ?_
  intro W c h2 p G x L w2
  rw [O] at p L
  refine ⟨_,rfl,?_⟩
  have w3:=w0.whole (l:=j) (m:=j+(mm+2)) (by omega) (by omega) (by omega) w2
  have Z:=B2k hne w3
  have o:(us.take j).length=j:=by rw [aF,F];omega
  have az:us.drop (j+(mm+2))=(us.drop j).drop (mm+2):=by rw [cM]
  rw [bF,az] at Z
  subst Z
  generalize hws:us.drop j=ws at *
  have r:(W++ws.drop (mm+2)).length=ws.length:=by rw [aN,aS];omega
  have dW:Dig b64 (W++ws.drop (mm+2)):=G.append (z.drop _)
  have ac:(W++ws.drop (mm+2)).getD (mm+2) 0=ws.getD (mm+2) 0:=by
   simp only [cK]
   rw [eZ (by omega),p,Nat.sub_self,List.getElem?_drop,eI]
  have ae:=L6 z (mm+2)
  have ax:(us.take j++(W++ws.drop (mm+2))).length=N:=by rw [aN,r,o];omega
  have ap:SlI .u64 (X8 .u64 C0 g bu (us.take j++(W++ws.drop (mm+2))) bq qs) (some ⟨bu,0,none⟩) (us.take j++(W++ws.drop (mm+2))):=Su hne
  have aj:j+(mm+2)=(mm+2)+(us.take j).length:=by omega
  refine ap.load ax.symm (by omega) (by omega) ?_
  rw [aC,aj,Dy,ac]
  refine ⟨_,rfl,by omega,by omega,?_⟩
  refine A1o (i:=mm+2+(us.take j).length) F0 hne (by omega) ?_
  rw [Ir]
  have hP:0<b64^(mm+2):=D6 (by decide) _
  have ah:=I5 (by decide) G
  have a4:=C5 (by decide) G
  rw [p] at ah
  rw [hY] at L
  have hD:X-q*Y=val b64 W+(ws.getD (mm+2) 0-c)*b64^(mm+2):=by rw [L,hX];grind
  have aa:X-q*Y<Y:=by
   have:(q+1)*Y=q*Y+Y:=by grind
   omega
  have a1: -Y<=X-q*Y:=by
   have:(q-1)*Y=q*Y-Y:=by grind
   omega
  have a9:0<=X:=by
   have t1:=C5 (by decide) (z.take (mm+2))
   have t2:=aQ (aL hP) ae.1
   omega
  have a3:ws.getD (mm+2) 0-c=0\/ws.getD (mm+2) 0-c= -1:=by
   have t2:ws.getD (mm+2) 0-c<1:=by
    by_cases x:ws.getD (mm+2) 0-c<1
    ·exact x
    ·have:=aD (show 1<=ws.getD (mm+2) 0-c by omega) (aL hP);omega
   have t3: -2<ws.getD (mm+2) 0-c:=by
    by_cases x: -2<ws.getD (mm+2) 0-c
    ·exact x
    ·have:=aD (show ws.getD (mm+2) 0-c <= -2 by omega) (aL hP);omega
   omega
  have A:∀ v,((W++ws.drop (mm+2)).set (mm+2) v).take (mm+2)=W:=by
   intro v
   rw [List.take_set_of_le (by omega),cP p]
  have ab:∀ v,((W++ws.drop (mm+2)).set (mm+2) v).getD (mm+2) 0=v:=by
   intro v
   rw [cK,fN (by omega)];rfl
  have ad:∀ v,((W++ws.drop (mm+2)).set (mm+2) v).drop (mm+3)=ws.drop (mm+3):=by
   intro v
   rw [D3 (by omega),show mm+3=(mm+2)+1 by omega,<- cM,dC p,cM]
  refine ⟨fun l h'=>∃ d u,l=[U u]/\h'=X8 .u64 C0 g bu (us.take j++d) bq qs/\d.length=ws.length/\Dig b64 d/\d.drop (mm+3)=ws.drop (mm+3)/\d.getD (mm+2) 0=0/\val b64 (d.take (mm+2))=X-u*Y/\0<=X-u*Y/\X-u*Y<Y/\0<=u/\u<18446744073709551616,B4 (fun h3=>?_) (fun h3=>?_),?_⟩
  ·have E:ws.getD (mm+2) 0-c= -1:=by omega
   rw [E] at hD ⊢
   have R:B8 (-1)=18446744073709551615:=by rw [D8];omega
   rw [R]
   have ak:1<=q:=by
    by_cases x:1<=q
    ·exact x
    ·have:q=0:=by omega
     subst this;omega
   have e5:(q-1)*Y=q*Y-Y:=by grind
   have bk:=B9x (g:=g) (bu:=bu) (bq:=bq) (pre:=us.take j) (qs:=qs) (VA:=VA) (vs:=vs) (n:=mm+2) (N:=N) (ws:=(W++ws.drop (mm+2)).set (mm+2) 18446744073709551615) (q:=q)
    (J:=fun l h'=>∃ d u,l=[U u]/\h'=X8 .u64 C0 g bu (us.take j++d) bq qs/\d.length=ws.length/\Dig b64 d/\d.drop (mm+3)=ws.drop (mm+3)/\d.getD (mm+2) 0=0/\val b64 (d.take (mm+2))=X-u*Y/\0<=X-u*Y/\X-u*Y<Y/\0<=u/\u<18446744073709551616)
    hu hq hne sv dv hn.symm (dW.set (by decide)) (by rw [aN,bL,r,o];omega) (by rw [bL,r];omega) (by omega) (by rw [A,hY];omega) (by rw [A,hY];omega) (ab _) ?_
   ·rw [o] at bk;exact bk
   ·intro d g1 g2 g3 g4 g5
    rw [A,hY] at g5
    rw [B9 (n:=q-1) (by omega) (by omega)]
    refine ⟨d,q-1,rfl,rfl,by rw [g1,bL,r],g2,by rw [g3,ad],g4,by omega,by omega,by omega,by omega,by omega⟩
  ·have H:ws.getD (mm+2) 0-c=0:=by omega
   rw [H] at hD ⊢
   have aq:B8 0=0:=by rw [D8];omega
   rw [aq]
   exact ⟨(W++ws.drop (mm+2)).set (mm+2) 0,q,rfl,rfl,by rw [bL,r],dW.set (by decide),ad _,ab _,by rw [A];omega,by omega,aa,q0,q1⟩
  ·rintro q4 a6 ⟨d,u,aw,rfl,g1,g2,g3,g4,g5,g6,g7,g8,g9⟩
   obtain rfl:q4=u:=by simpa using aw
   refine ⟨_,rfl,by omega,by omega,?_⟩
   refine A1p (i:=j) F0 (by omega) ?_
   rw [B6 (by omega) (by omega)]
   have T:val b64 d=X-q4*Y:=by
    have z1:=E7 b64 d (i:=mm+3) (by omega)
    rw [g3,y,F2,g4,g5] at z1
    simp at z1
    omega
   refine ⟨⟨j,us.take j++d,qs.set j q4,rfl,by omega,by rw [aN,g1,o];omega,by simpa using S,(w.take j).append g2,af.set ⟨g8,g9⟩,rfl,?_,?_⟩,by simp only [iAt,aH];omega⟩
   ·rw [dC o,T];exact g7
   ·have ag:=E7 b64 us (i:=j) (by omega)
    rw [hws,hXX] at ag
    rw [hv,S2 (by omega),H6,o,T,ag,aZ]
    simp only [val]
    grind
 ·have al:k=0:=by omega
  subst al
  simp at av hv
  have bb:0<b:=by
   by_cases x:0<b
   ·exact x
   ·have:=aD (show b<=0 by omega) (aL hp);omega
  have a7:=C5 (by decide) w
  have hR:val b64 us=(a-val b64 qs*b)*2^s:=by
   rw [hua,hYb] at hv
   grind
  have an:0<=a-val b64 qs*b:=by
   by_cases x:0<=a-val b64 qs*b
   ·exact x
   ·have:=aD (show a-val b64 qs*b <= -1 by omega) (aL hp);omega
  have a0:a-val b64 qs*b<b:=by
   by_cases x:a-val b64 qs*b<b
   ·exact x
   ·have:=aD (show b<=a-val b64 qs*b by omega) (aL hp);omega
  have C:a/b=val b64 qs:=by
   have:a=(a-val b64 qs*b)+val b64 qs*b:=by omega
   rw [this,dS _ _ (by omega),bK an a0,cO]
  have Q:a%b=a-val b64 qs*b:=by
   have:=Int.emod_def a b
   rw [this,C,aP]
  rw [C,Q] at hK
  rw [<- S]
  refine M0 B5k af (bD _) (by omega) ?_
  intro m1 R M1
  refine ⟨_,_,_,rfl,?_⟩
  rw [<- F]
  refine M0 su w (bD _) (by omega) ?_
  intro m2 ba M2
  refine ⟨_,_,_,rfl,?_⟩
  rw [B9 (by omega) (by omega)]
  refine Et M2 (by have:=M2.len_le (by decide) (j:=mm+2) (by omega);omega) (by omega) ?_
  intro A3 m3 c3 h3 l3 k3 M3
  have ao:val b64 us/2^s=a-val b64 qs*b:=by rw [hR,eD _ (by omega)]
  rw [ao] at M3
  exact ⟨_,_,_,rfl,hK _ _ _ _ _ _ _ (A0 V l3) (by omega) k3 (M1.mono l3) M3⟩
end
section
variable {h g:bJ} {K:VP} {A B:Option bN} {ac bc:Nat}
set_option maxHeartbeats 1000000 in
def Dd{x y:Int}{an bn:Nat}(ma:Mw h A an x)(mb:Mw h B bn y)(ha:an<=ac)(hbc:bn<=bc)(hy:y≠0)(hl:an<=1000000000)(hl2:bn<=1000000000)
 (hK:∀ A1 m1 c1 A2 m2 c2 h',h.le h'->m1<=c1->m2<=c2->Mw h' A1 m1 (x/y)->Mw h' A2 m2 (x%y)->K (.tuple #[.slice A1 m1 c1,.slice A2 m2 c2]) h'):aY prog H0 #[.slice A an ac,.slice B bn bc] h K:=by
 have D:=ma.nonneg (by decide)
 have ab:=mb.nonneg (by decide)
 have a6:=mb.len_zero (by decide)
 have z:=ma.lt (by decide)
 have a2:=mb.lt (by decide)
 refine Pn _ _ _ _ _ _ ?_
 unfold Lr
 refine G8 ma mb (by omega) ⟨_,rfl,B4 (fun u=>?_) (fun u=>D9 (fun h2=>?_) (fun h2=>?_))⟩
 ·have M:x<y:=by
   unfold Cj at u
   by_cases c:x<y
   ·exact c
   ·rw [iN c] at u
    by_cases W:x>y
    ·rw [iP W] at u;omega
    ·rw [iN W] at u;omega
  rw [bK D M,eM D M] at hK
  exact hK none 0 0 _ _ _ _ (B3 h) (bD _) ha Mag.zero ma
 ·obtain ⟨a,rfl,sy,dy,ny,rfl⟩:=mb
  have E:a.length=1:=by omega
  obtain ⟨d,rfl⟩:∃ d,a=[d]:=by
   cases a with
   | nil=>simp at E
   | cons d r=>
    cases r with
    | nil=>exact ⟨d,rfl⟩
    | cons _ _=>simp at E
  rw [S9] at hy ab hK
  have hd:=dy d (by simp)
  obtain ⟨w,rfl⟩:∃ w:Nat,d=w:=⟨d.toNat,by omega⟩
  refine sy.load rfl (by omega) (by simp) ?_
  show aY _ _ #[_,U (w:Int)] _ _
  have hw:w<18446744073709551616:=by have:=hd.2;have:(w:Int)<18446744073709551616:=this;omega
  refine Sj ma ⟨by omega,hw⟩ hl ?_
  intro A' m c' h' af hm a7 hM
  refine ⟨_,_,_,_,rfl,?_⟩
  refine Ac ⟨aR _ (by omega),by have:=aJ x (show (0:Int)<w by omega);omega⟩ ?_
  intro A2 m2 c2 h3 S k3 M3
  exact ⟨_,_,_,rfl,hK _ _ _ _ _ _ _ (A0 af S) hm k3 (hM.mono S) M3⟩
 ·have au:y<=x:=by
   unfold Cj at u
   by_cases c:x<y
   ·rw [iP c] at u;omega
   ·omega
  have a3:bn<=an:=mb.len_le (by decide) (cJ au z)
  have ae:=mb
  have aa:=ma
  obtain ⟨a,rfl,sy,dy,ny,rfl⟩:=mb
  obtain ⟨mm,hmm⟩:∃ mm,a.length=mm+2:=⟨a.length-2,by omega⟩
  have gt:=L6 dy (mm+1)
  have ah:=A09 (m:=mm+1) hmm ny
  obtain ⟨H,q⟩:=Al (B:=b64) (by decide) dy (m:=mm+1) hmm
  have e1:B5 ((a.length:Int)-1)=((mm+1:Nat):Int):=by rw [B6 (by omega) (by omega)];omega
  rw [e1]
  refine sy.load rfl (by omega) (by omega) ?_
  rw [aC]
  obtain ⟨t,ht⟩:∃ t:Nat,a.getD (mm+1) 0=t:=⟨(a.getD (mm+1) 0).toNat,by omega⟩
  rw [ht] at gt ah H q ⊢
  have o:t≠0:=by omega
  refine O0 (by omega) ⟨_,rfl,?_⟩
  obtain ⟨az,ax⟩:=Bj o
  have a0:I9 t<=64:=Ep (k:=64) (by omega)
  have ay:1<=I9 t:=by unfold I9;rw [iN o];omega
  obtain ⟨s,hs⟩:∃ s,s=64-I9 t:=⟨_,rfl⟩
  rw [<- hs]
  have O:s<64:=by omega
  have b:0<(2:Int)^s:=bG (by decide)
  have ao:=W5 (s:=s) (by omega)
  have C:I9 t=64-s:=by omega
  have aq:(t:Int)+1<=2^(64-s):=by
   rw [<- C]
   have:((t+1:Nat):Int)<=((2^I9 t:Nat):Int):=by omega
   simpa using this
  have ai:(2:Int)^(63-s)<=t:=by
   have:((2^(I9 t-1):Nat):Int)<=((t:Nat):Int):=by omega
   rw [show I9 t-1=63-s by omega] at this
   simpa using this
  have R:(2:Int)^s*2^(63-s)=9223372036854775808:=by
   rw [<- aW,show s+(63-s)=63 by omega];decide
  have ar:B8 (s:Int)=(s:Int):=B9 (by omega) (by omega)
  rw [ar]
  have j:=D6 (B:=b64) (by decide) (mm+1)
  have aj:val b64 a*2^s<b64^(mm+2):=by
   have t2:val b64 a*2^s<((t:Int)+1)*b64^(mm+1)*2^s:=bI H b
   have t3:((t:Int)+1)*b64^(mm+1)*2^s=((t:Int)+1)*2^s*b64^(mm+1):=by grind
   have t4:((t:Int)+1)*2^s*b64^(mm+1)<=18446744073709551616*b64^(mm+1):=by
    apply aD _ (aL j)
    rw [<- ao,aP (2^s)]
    exact aD aq (aL b)
   have t5:b64^(mm+2)=18446744073709551616*b64^(mm+1):=by rw [aZ b64 (mm+1),aP]
   omega
  have a4:9223372036854775808*b64^(mm+1)<=val b64 a*2^s:=by
   have t1:(t:Int)*b64^(mm+1)*2^s<=val b64 a*2^s:=aD q (aL b)
   have t2:9223372036854775808*b64^(mm+1)<=(t:Int)*2^s*b64^(mm+1):=by
    apply aD _ (aL j)
    rw [<- R,aP (t:Int)]
    exact aG ai (by omega)
   have t3:(t:Int)*2^s*b64^(mm+1)=(t:Int)*b64^(mm+1)*2^s:=by grind
   omega
  refine Q9 ae hbc hl2 (by omega) ?_
  intro A1 n1 c1 g1 l1 k1 M1
  refine ⟨_,_,_,rfl,?_⟩
  have av:n1=mm+2:=by
   have q1:=M1.len_le (by decide) aj
   have q2:=M1.lt (by decide)
   by_cases c:n1=mm+2
   ·exact c
   ·have:=D5 (B:=b64) (by decide) (show n1<=mm+1 by omega)
    omega
  subst av
  obtain ⟨X,Q,sv,dv,nv,V⟩:=M1
  have ap:b64<=2*X.getD (mm+1) 0:=by
   obtain ⟨q1,q2⟩:=Al (B:=b64) (by decide) dv (m:=mm+1) Q.symm
   rw [V] at q1
   have:9223372036854775808<X.getD (mm+1) 0+1:=by
    by_cases c:9223372036854775808<X.getD (mm+1) 0+1
    ·exact c
    ·have:=aD (show X.getD (mm+1) 0+1<=9223372036854775808 by omega) (aL j);omega
   show (18446744073709551616:Int)<=_
   omega
  have eN:B5 ((an:Int)+1)=((an+1:Nat):Int):=by rw [B6 (by omega) (by omega)];omega
  rw [eN]
  refine I3 O8 (by omega) (by omega) (by omega) ?_
  intro bu ak
  rw [aC]
  refine ⟨_,_,_,rfl,?_⟩
  have w0:=Win.blk .u64 C0 ak (aE (an+1) 0)
  refine w0.call ?_
  refine Q9 (aa.mono l1) ha hl (by omega) ?_
  intro A3 n3 c3 g3 S k3 M3 h4 w4
  refine ⟨_,_,_,rfl,?_⟩
  have al:x*2^s<b64^(an+1):=by
   have t1:x*2^s<b64^an*2^s:=bI z b
   have t2:b64^an*2^s<=b64^an*18446744073709551616:=by
    apply aG _ (aL (D6 (by decide) an))
    have:=D5 (B:=2) (by decide) (show s<=64 by omega)
    have e:(2:Int)^64=18446744073709551616:=by decide
    omega
   rw [aZ];show _<b64^an*(18446744073709551616:Int);omega
  have a5:=M3.len_le (by decide) al
  obtain ⟨us,ad,ag,am,a1,T⟩:=M3
  refine Eo O8 w4 (by simp) (ag.mono w4.le) ad (by simp;omega) ?_
  intro h5 Z
  refine ⟨_,rfl,?_⟩
  rw [bA] at Z
  generalize hu0:us++aE (an+1-us.length) (0:Int)=us0 at Z
  have G:us0.length=an+1:=by rw [<- hu0];simp;omega
  have l:Dig b64 us0:=by rw [<- hu0];exact am.append (G4 (by decide) _)
  have p:val b64 us0=x*2^s:=by rw [<- hu0,Bm];exact T
  obtain ⟨nq,hnq⟩:∃ nq,an+1=nq+(mm+2):=⟨an+1-(mm+2),by omega⟩
  have eq:B5 (B5 ((an:Int)-(a.length:Int))+1)=(nq:Int):=by
   rw [B6 (n:=(an:Int)-(a.length:Int)) (by omega) (by omega),B6 (by omega) (by omega)];omega
  rw [eq]
  refine I3 O8 (by omega) (by omega) (by omega) ?_
  intro bq g
  rw [aC]
  refine ⟨_,_,_,rfl,?_⟩
  have aw:h5=blk .u64 C0 g3 bu us0:=by rw [Z.eq];simp [blk]
  subst aw
  have L:g3 bu=none:=Z.free
  have J:bu≠bq:=by
   rintro rfl
   unfold blk at g
   rw [C4] at g;cases g
  have F:g3 bq=none:=by
   have:=g
   unfold blk at this
   rwa [B7 _ _ J.symm] at this
  rw [hmm]
  refine A32 (us0:=us0) (N:=an+1) (xn:=an) L F J (sv.mono S) dv Q.symm ap O V rfl l G p rfl hnq (by omega) (by omega) ?_ ?_
  ·have s1:=E7 b64 us0 (i:=nq) (by omega)
   have s2:=C5 (by decide) (l.take nq)
   have s3:val b64 us0<b64^an*2^s:=by
    rw [p];exact bI z b
   have s4:b64^(mm+1)<=val b64 a:=by
    have:=aD (show 1<=(t:Int) by omega) (aL j);omega
   have s5:b64^nq*(b64^(mm+1)*2^s)<=b64^nq*(val b64 a*2^s):=aG (aD s4 (aL b)) (aL (D6 (by decide) nq))
   have s6:b64^nq*(b64^(mm+1)*2^s)=b64^an*2^s:=by
    rw [<- cD,<- aW,show nq+(mm+1)=an by omega]
   by_cases c:val b64 (us0.drop nq)<val b64 a*2^s
   ·exact c
   ·have:=aG (show val b64 a*2^s<=val b64 (us0.drop nq) by omega) (aL (D6 (B:=b64) (by decide) nq));omega
  ·intro A5 m5 c5 A6 m6 c6 h6 l6 k5 k6 M5 M6
   exact hK _ _ _ _ _ _ _ (A0 l1 (A0 S l6)) k5 k6 M5 M6
end
def Yu{x a b p:Int}(h:a+p*b=x)(h0:0<=a)(h1:a<p):x/p=b/\x%p=a:=(Int.ediv_emod_unique (by omega)).2 ⟨h,h0,h1⟩
def Ue{P:dD}{h:bJ}{A:Option bN}{n m c s:Nat}{cs:List dZ}(hl:cs.length=n*s)(hc:cs=[]\/∃ a,A=some a/\∀ j v,cs[j]? = some v->h.cell? (a.add j)=some v){K:Array dZ->bJ->Prop}(x:K cs.toArray h):
 wpH P (Builtin.firstCells s n (.slice A m c)) K h:=by
 cases A with
 | none=>
  rcases hc with rfl|⟨a,e,_⟩
  ·exact x
  ·cases e
 | some a=>
  show wpH P (loadCells a (n*s)) K h
  rcases hc with rfl|⟨b,e,hc⟩
  ·exact R1 (cs:=[]) hl.symm (fun j v e=>by simp at e) x
  ·cases e
   exact R1 hl.symm hc x
def B3x{P:dD}{t e ty:cH}{k:cV}{bytes:Nat}(s:SliceT P t e (.int k 0) 1 bytes){h g:bJ}{b:Nat}{A:Option bN}{pre post:List dZ}{xs:List Int}{n c m d:Nat}(w:Win k h g b e A pre xs post)(hn:n=xs.length){B:Option bN}{ys:List Int}(sy:SlI k h B ys)(hm:min m xs.length=ys.length){K:VP}
 (x:∀ h',Win k h' g b e A pre (ys++xs.drop ys.length) post->K (I ys.length) h'):wpH P (dL #[t,t] ty #[.slice A n c,.slice B m d]) K h:=by
 subst hn
 have l:ys.length<=xs.length:=by omega
 obtain ⟨i,y,z,p,q⟩:=s.parts
 unfold dL
 simp only [dX,aH,aO,C3,E3 s.und,J5 y,F4,Builtin.lenOf,p]
 have o:Nat.min m xs.length=ys.length:=hm
 rw [o]
 refine Ue (s:=1) (cs:=ys.map (bH k)) (by simp) sy ?_
 cases A with
 | none=>
  rcases w.at_ with j|j
  ·subst j
   have:ys=[]:=aU (by simpa using l)
   subst this
   exact x h (by simpa using w)
  ·cases j
 | some a=>
  simp only [C3]
  rcases w.at_ with j|j
  ·subst j
   have:ys=[]:=aU (by simpa using l)
   subst this
   exact x h (by simpa using w)
  ·cases j
   rw [w.eq]
   refine H5 (ys.map (bH k)) pre.length 0 (pre++xs.map (bH k)++post) (by simp;omega) (fun v r=>?_) ?_
   ·obtain ⟨u,_,rfl⟩:=List.mem_map.1 r;rfl
   ·refine x _ ⟨w.free,?_,?_⟩
    ·congr 3
     unfold J8
     rw [eI,bF pre,cP rfl,dV]
     rw [eQ,aX (show pre.length<=pre.length+ys.length by omega),cG,cA]
     rw [cZ (by simpa using l),<- List.map_drop,dB]
     simp only [bF]
    ·right;rfl
section
variable {h g:bJ} {K:VP} {A B:Option bN} {ac bc:Nat}
def B59(a n:Nat):(if (a:Int)<(n:Int) then (a:Int) else (n:Int))=((min n a:Nat):Int):=by split<;>omega
def Jr{xs:List Int}(d:Dig b64 xs)(n:Nat):val b64 xs/b64^n=val b64 (xs.drop (min n xs.length))/\val b64 xs%b64^n=val b64 (xs.take (min n xs.length)):=by
 by_cases b:n<=xs.length
 ·rw [aI b]
  have e:=E7 b64 xs b
  have a:=C5 (by decide) (d.take n)
  have c:=I5 (by decide) (d.take n)
  rw [aF,aI b] at c
  exact Yu e.symm a c
 ·rw [dM (by omega),eP,aV]
  have a:=C5 (by decide) d
  have c:=I5 (by decide) d
  have g:=D5 (B:=b64) (by decide) (show xs.length<=n by omega)
  exact Yu (by simp [val]) a (by omega)
def U9{x:Int}{an n:Nat}(ma:Mw h A an x)(ha:an<=ac)(hK:∀ A' m c',m<=c'->m<=an->Mw h A' m (x/b64^n)->K (.slice A' m c') h):aY prog Q6 #[.slice A an ac,I n] h K:=by
 obtain ⟨a,rfl,e,b,d,rfl⟩:=ma
 refine Zc _ _ _ _ ?_
 unfold Vy
 rw [B59,aC]
 refine ⟨⟨by omega,by omega⟩,hK _ _ _ (by omega) (by omega) ?_⟩
 rw [(Jr b n).1,<- aS]
 refine Mw.of (Yw e (by omega) ha) (b.drop _) ?_
 by_cases c:min n a.length<a.length
 ·exact Kf d c
 ·rw [aX (by omega)];exact Norm.nil
def Dx{x:Int}{an n:Nat}(ma:Mw h A an x)(ha:an<=ac)(hl:an<=10000000000)(hK:∀ A' m c',m<=c'->m<=n->m<=an->Mw h A' m (x%b64^n)->K (.slice A' m c') h):aY prog Be #[.slice A an ac,I n] h K:=by
 obtain ⟨b,rfl,c,a,d,rfl⟩:=ma
 refine A1x _ _ _ _ ?_
 unfold A1y
 rw [B59,aC,H1,bV,bV]
 refine ⟨⟨by omega,by omega⟩,Hc (Hv c (m:=min n b.length) (by omega) ha) (a.take _) (by rw [aF];omega) (Jr a n).2.symm (by omega) (by omega) ?_⟩
 intro m e M
 exact ⟨_,_,_,rfl,hK _ _ _ (by omega) (by omega) (by omega) M⟩
def Fz{x y:Int}{an bn n:Nat}(ma:Mw h A an x)(mb:Mw h B bn y)(hbn:bn<=n)(hl:n+an<=5000000000)(hK:∀ A' m c' h',h.le h'->m<=c'->Mw h' A' m (x*b64^n+y)->K (.slice A' m c') h'):aY prog Je #[.slice A an ac,.slice B bn bc,I n] h K:=by
 obtain ⟨a,rfl,C,w,F,rfl⟩:=ma
 obtain ⟨d,rfl,u,r,J,rfl⟩:=mb
 refine B4a _ _ _ _ _ _ _ ?_
 unfold C02
 have p:B5 ((n:Int)+a.length)=((n+a.length:Nat):Int):=by rw [B6 (by omega) (by omega)];omega
 rw [p]
 refine I3 O8 (by omega) (by omega) (by omega) ?_
 intro b D
 rw [aC]
 refine ⟨_,_,_,rfl,?_⟩
 have o:=Win.blk .u64 C0 D (aE (n+a.length) 0)
 refine Eo O8 o (by simp) (u.mono o.le) rfl (by simp;omega) ?_
 intro G g
 refine ⟨_,rfl,⟨by omega,by omega⟩,?_⟩
 rw [bA] at g
 generalize hz:d++aE (n+a.length-d.length) (0:Int)=zs at g
 have q:zs.length=n+a.length:=by rw [<- hz];simp;omega
 have E:=g.sub (l:=n) (m:=n+a.length) (c:=n+a.length) (by omega) (by omega) (by omega)
 rw [aC]
 refine Eo O8 E (by rw [aF,aS];omega) (C.mono g.le) rfl (by rw [aF,aS];omega) ?_
 intro H k
 rw [aX (by rw [aF,aS];omega),cC] at k
 have i:=g.whole (l:=n) (m:=n+a.length) (by omega) (by omega) (by omega) k
 rw [aX (show zs.length<=n+a.length by omega),cC] at i
 have j:zs.take n=d++aE (n-d.length) 0:=by
  rw [<- hz,List.take_append,aM (by omega),cF]
  congr 2;omega
 rw [j] at i
 refine ⟨_,rfl,Hc i.sl ((r.append (G4 (by decide) _)).append w) (by simp;omega) rfl (by omega) (by omega) ?_⟩
 intro m z M
 refine ⟨_,_,_,rfl,hK _ _ _ _ i.le z ?_⟩
 rw [H6,Bm] at M
 have e:(d++aE (n-d.length) (0:Int)).length=n:=by simp;omega
 rw [e] at M
 have s:val b64 a*b64^n+val b64 d=val b64 d+b64^n*val b64 a:=by rw [aP];omega
 rw [s];exact M
def B7n{x y:Int}(hx:0<=x/\x<18446744073709551616)(hy:0<=y/\y<18446744073709551616)(hK:K (.tuple #[U (x*y/18446744073709551616),U (x*y%18446744073709551616)]) h):aY prog A9u #[U x,U y] h K:=by
 refine B8e _ _ ?_
 unfold C3m
 exact Kg hx hy ⟨_,_,rfl,hK⟩
def A3b{v:Int}{n:Nat}(s:SlI .u64 h A [v])(hn:0<n)(hl:n<=1000000000)(hK:∀ A' h',h.le h'->SlI .u64 h' A' (aE n v)->K (.slice A' n n) h'):aY prog Rr #[.slice A 1 ac,I n] h K:=by
 refine A75 _ _ _ _ ?_
 unfold B0s
 refine B4 (fun d=>by omega) (fun _=>?_)
 rw [B9 (n:=((1:Nat):Int)) (by omega) (by omega),B9 (n:=(n:Int)) (by omega) (by omega)]
 refine B7n (by omega) (by omega) ⟨_,_,rfl,?_⟩
 have x:((1:Nat):Int)*(n:Int)/18446744073709551616=0:=by omega
 have z:((1:Nat):Int)*(n:Int)%18446744073709551616=n:=by omega
 rw [x,z]
 refine B4 (fun d=>by omega) (fun _=>?_)
 refine B4 (fun d=>by omega) (fun _=>?_)
 rw [B6 (n:=(n:Int)) (by omega) (by omega)]
 refine I3 O8 (by omega) (by omega) (by omega) ?_
 intro b E
 rw [aC]
 refine ⟨_,_,_,rfl,?_⟩
 have p:=Win.blk .u64 C0 E (aE n 0)
 refine Eo O8 p (by simp) (s.mono p.le) rfl (by simp;omega) ?_
 intro d r
 refine ⟨_,rfl,?_⟩
 rw [bA] at r
 refine ⟨fun l e=>∃ k:Nat,l=[I k]/\0<k/\k<=n/\Win .u64 e h b C0 (some ⟨b,0,none⟩) [] (aE k v++aE (n-k) 0) [],fun l _=>n-(iAt l 0).toNat,⟨1,rfl,by omega,hn,r⟩,?_⟩
 rintro i e ⟨k,g,D,a,w⟩
 obtain rfl:=sI1 g
 refine B4 (fun B=>?_) (fun B=>?_)
 ·have y:(aE k v++aE (n-k) (0:Int)).length=n:=by simp;omega
  refine ⟨⟨by omega,by omega⟩,⟨by omega,by omega⟩,?_⟩
  simp only [aC,H1,bV]
  have q:=w.sub (l:=k) (m:=n) (c:=n) (by omega) (by omega) (by omega)
  have C:((aE k v++aE (n-k) (0:Int)).drop k).take (n-k)=aE (n-k) 0:=by
   rw [dC (by simp),aM (by simp)]
  rw [C] at q
  have G:SlI .u64 e (some ⟨b,0,none⟩) (aE (min k (n-k)) v):=by
   have:=Hv w.sl (c:=n) (m:=min k (n-k)) (by omega) (by omega)
   rwa [eS (by simp;omega),cF,aI (by omega)] at this
  refine B3x O8 q (by simp) G (by simp) ?_
  intro H o
  rw [bY] at o ⊢
  have j:=w.whole (l:=k) (m:=n) (by omega) (by omega) (by simp;omega) o
  have u:B5 ((k:Int)+(min k (n-k):Nat))=((k+min k (n-k):Nat):Int):=by rw [B6 (by omega) (by omega)];omega
  refine ⟨_,rfl,?_⟩
  rw [u]
  refine ⟨⟨_,rfl,by omega,by omega,?_⟩,?_⟩
  ·have F:(aE k v++aE (n-k) (0:Int)).take k++(aE (min k (n-k)) v++(aE (n-k) (0:Int)).drop (min k (n-k)))++(aE k v++aE (n-k) (0:Int)).drop n=aE (k+min k (n-k)) v++aE (n-(k+min k (n-k))) 0:=by
    rw [cP (by simp),aX (show (aE k v++aE (n-k) (0:Int)).length<=n by omega),cC,bA,<- bF,cU]
    congr 2;omega
   rw [F] at j
   exact j
  ·simp only [iAt,aH];omega
 ·have a:k=n:=by omega
  subst a
  have:=w.sl
  rw [Nat.sub_self,List.replicate_zero,cC] at this
  exact hK _ _ w.le this
end
def Mw.high{h:bJ}{A:Option bN}{an ac k:Nat}{x:Int}(ma:Mw h A an x)(ha:an<=ac)(hk:k<=an):Mw h (J4 A ac k 1) (an-k) (x/b64^k):=by
 obtain ⟨c,rfl,g,b,d,rfl⟩:=ma
 have e:=(Jr b k).1
 rw [aI hk] at e
 rw [e,<- aS]
 refine Mw.of (Yw g hk ha) (b.drop _) ?_
 by_cases a:k<c.length
 ·exact Kf d a
 ·rw [aX (by omega)];exact Norm.nil
def B2u{x P X2 yh top:Int}(hP:0<P)(h1:x<P*P*(X2+1))(h2:P*top<=x)(hlt:X2<yh):top<P*yh:=by
 by_cases b:top<P*yh
 ·exact b
 ·have c:P*(P*yh)<=P*top:=aG (by omega) (by omega)
  have a:P*P*(X2+1)<=P*P*yh:=aG (by omega) (aQ (by omega) (by omega))
  rw [cD P P yh] at a
  omega
def B2v{x P X2 yh top:Int}(hP:0<P)(h1:P*P*X2<=x)(h2:x<P*(top+1))(hge:yh<=X2):P*yh<=top:=by
 by_cases b:P*yh<=top
 ·exact b
 ·have c:P*(top+1)<=P*(P*yh):=aG (by omega) (by omega)
  have a:P*P*yh<=P*P*X2:=aG (by omega) (aQ (by omega) (by omega))
  rw [cD P P yh] at a
  omega
def B6d(N:Nat):Prop:=∀ {h:bJ} {K:VP} {A B:Option bN} {ac bc an bn:Nat} {x y:Int},bn<=N->Mw h A an x->Mw h B bn y->an<=ac->bn<=bc->an<=1000000000->bn<=200000000->0<bn->9223372036854775808*b64^(bn-1)<=y->x<b64^bn*y->
 (∀ A1 m1 c1 A2 m2 c2 h',h.le h'->m1<=c1->m2<=c2->Mw h' A1 m1 (x/y)->Mw h' A2 m2 (x%y)->K (.tuple #[.slice A1 m1 c1,.slice A2 m2 c2]) h')->aY prog R8 #[.slice A an ac,.slice B bn bc] h K
section
variable {h g:bJ} {K:VP} {A B:Option bN} {ac bc:Nat}
def Cc{x y:Int}:Cj x y<0↔x<y:=by
 unfold Cj
 by_cases a:x<y
 ·rw [iP a];simp [a]
 ·rw [iN a]
  by_cases b:x>y
  ·rw [iP b];simp [a]
  ·rw [iN b];simp [a]
set_option maxHeartbeats 1000000 in
def A2x{x y q0 R0 pr:Int}{m bn nq cq np cp nr cr:Nat}{Aq Ap Ar:Option bN}(hx0:0<=x)(mb:Mw h B bn y)(hb:bn<=bc)(hl2:bn<=200000000)(hbm:bn=2*m)(mq:Mw h Aq nq q0)(hq:nq<=cq)(mp:Mw h Ap np pr)(hp2:pr<b64^bn)
 (mr:Mw h Ar nr R0) (hr:nr<=cr) (hq0:q0<b64^m) (hR:R0-pr=x-q0*y) (hy:x-q0*y<y)
 (hK:∀ A1 m1 c1 A2 m2 c2 h',h.le h'->m1<=c1->m2<=c2->Mw h' A1 m1 (x/y)->Mw h' A2 m2 (x%y)->K (.tuple #[.slice A1 m1 c1,.slice A2 m2 c2]) h'):
 Y8 prog B bn bc K Aq nq cq Ap np cp Ar nr cr h:=by
 have w:=mb.lt (by decide)
 have E:=mb.nonneg (by decide)
 have M:=mp.nonneg (by decide)
 unfold Y8
 refine ⟨fun l c=>∃ (Aq Ar:Option bN) (nq cq nr cr:Nat) (q R:Int),l=[.slice Aq nq cq,.slice Ar nr cr]/\h.le c/\Mw c Aq nq q/\nq<=cq/\Mw c Ar nr R/\nr<=cr/\q<b64^m/\R-pr=x-q*y/\x-q*y<y,fun l c=>match l with|[.slice A n _,_]=>A9a b64 c A n|_=>0,⟨_,_,_,_,_,_,_,_,rfl,B3 h,mq,hq,mr,hr,hq0,hR,hy⟩,?_⟩
 rintro A1 H c1 A2 G c2 c ⟨Aq,Ar,nq,cq,nr,cr,q,R,s,d,mq,hq,mr,hr,hq0,hR,hy⟩
 simp only [bO,cL,and_true] at s
 obtain ⟨⟨rfl,rfl,rfl⟩,rfl,rfl,rfl⟩:=s
 have F:G<=bn+1:=mr.len_le (by decide) (by
  rw [aZ]
  show R<b64^bn*18446744073709551616
  omega)
 have L:H<=m:=mq.len_le (by decide) hq0
 refine G8 mr (mp.mono d) (by omega) ⟨_,rfl,?_⟩
 refine B4 (fun j=>?_) (fun j=>?_)
 ·rw [Cc] at j
  have z:=mq.nonneg (by decide)
  have i:1<=q:=by
   by_cases C:1<=q
   ·exact C
   ·obtain rfl:q=0:=by omega
    omega
  refine O4 mr (mb.mono d) hr hb (by omega) (by omega) ?_
  intro A3 O D r e o M3
  refine ⟨_,_,_,rfl,Y4 O8 rfl ?_⟩
  intro b g
  refine ⟨_,_,_,rfl,?_⟩
  have k:=Heap.le_put (.cells #[U 1] C0) g
  have M1:Mw (r.put b (.cells #[U 1] C0)) (some ⟨b,0,none⟩) 1 1:=⟨[1],rfl,SlI.new r b [1] C0 _,Dig.one (by decide),by simp [Norm],S9 _ _⟩
  refine G0 ((mq.mono e).mono k) M1 hq (by omega) i ?_
  intro A5 S V T u N M5
  refine ⟨_,_,_,rfl,⟨_,_,_,_,_,_,_,_,rfl,A0 d (A0 e (A0 k u)),M5,N,(M3.mono k).mono u,o,by omega,?_,?_⟩,?_⟩
  ·rw [Int.sub_mul];omega
  ·rw [Int.sub_mul];omega
  ·simp only [Y3 M5,Y3 mq];omega
 ·rw [Cc] at j
  refine G0 mr (mp.mono d) hr (by omega) (by omega) ?_
  intro A3 O D r e o M3
  obtain ⟨Q,J⟩:=Yu (x:=x) (a:=R-pr) (b:=q) (p:=y) (by rw [hR,aP y];omega) (by omega) (by omega)
  refine ⟨_,_,_,rfl,hK _ _ _ _ _ _ _ (A0 d e) hq o ?_ ?_⟩
  ·rw [Q];exact mq.mono e
  ·rw [J];exact M3
set_option maxHeartbeats 1000000 in
def Qp{N:Nat}(ih:B6d N){x y:Int}{an bn m:Nat}(hm:0<m)(hN:m<=N)(hbm:bn=2*m)(ma:Mw h A an x)(mb:Mw h B bn y)(ha:an<=ac)(hb:bn<=bc)(hl:an<=1000000000)(hl2:bn<=200000000)(htop:9223372036854775808*b64^(bn-1)<=y)(hxy:x<b64^m*y)
 (hK:∀ A1 m1 c1 A2 m2 c2 h',h.le h'->m1<=c1->m2<=c2->Mw h' A1 m1 (x/y)->Mw h' A2 m2 (x%y)->K (.tuple #[.slice A1 m1 c1,.slice A2 m2 c2]) h'):aY prog R7 #[.slice A an ac,.slice B bn bc] h K:=by
 have V:=ma.nonneg (by decide)
 have ar:=mb.nonneg (by decide)
 have a0:=mb.lt (by decide)
 have n:=D6 (B:=b64) (by decide) m
 have ah:b64^bn=b64^m*b64^m:=by rw [<- aW];congr 1;omega
 have D:b64^(2*m)=b64^m*b64^m:=by rw [<- aW];congr 1;omega
 have al:b64^(bn-1)=b64^m*b64^(m-1):=by rw [<- aW];congr 1;omega
 have a:=mb.high (k:=m) hb (by omega)
 rw [show bn-m=m by omega] at a
 have d:=a.nonneg (by decide)
 have aq:=a.lt (by decide)
 have dy:b64^m*(y/b64^m)+y%b64^m=y:=aK _ _
 have ab:=aR y (b:=b64^m) (by omega)
 have au:=aJ y n
 have dx:b64^m*(x/b64^m)+x%b64^m=x:=aK _ _
 have a3:=aR x (b:=b64^m) (by omega)
 have av:=aJ x n
 have az:=D6 (B:=b64) (by decide) (m-1)
 have af:9223372036854775808*b64^(m-1)<=y/b64^m:=by
  by_cases hc:9223372036854775808*b64^(m-1)<=y/b64^m
  ·exact hc
  ·have o:b64^m*(y/b64^m+1)<=b64^m*(9223372036854775808*b64^(m-1)):=aG (by omega) (by omega)
   have S:b64^m*(9223372036854775808*b64^(m-1))=9223372036854775808*(b64^m*b64^(m-1)):=by grind
   rw [al] at htop
   rw [cI] at o
   omega
 obtain ⟨ys,X,sy,e,am,rfl⟩:=mb
 have mb:Mw h B bn (val b64 ys):=⟨ys,X,sy,e,am,rfl⟩
 generalize hyv:val b64 ys=y at *
 refine Pm _ _ _ _ _ _ ?_
 unfold Lp
 have eh:B5 (dE ((bn:Nat):Int) 2)=(m:Int):=by rw [bB (by omega),B6 (by omega) (by omega)];omega
 have ak:B5 (2*(m:Int))=((2*m:Nat):Int):=by rw [B6 (by omega) (by omega)];omega
 simp only [eh,ak,aC,bV,H1]
 rw [show bn-m=m by omega]
 refine ⟨⟨by omega,by omega⟩,⟨by omega,by omega⟩,Hc (Hv sy (m:=m) (c:=bc) (by omega) (by omega)) (e.take m) (by rw [aF];omega) rfl (by omega) (by omega) ?_⟩
 intro yn a5 Myl
 have F:=(Jr e m).2
 rw [aI (by omega),hyv] at F
 rw [<- F] at Myl
 refine ⟨_,_,_,rfl,B3 h,U9 ma ha ?_⟩
 intro A1 n1 c1 k1 a1 M1
 refine ⟨_,_,_,rfl,?_⟩
 have w:=M1.nonneg (by decide)
 refine ⟨fun l R=>∃ (Aq Ar:Option bN) (T cq O cr:Nat) (q r:Int),l=[.slice Aq T cq,.slice Ar O cr]/\h.le R/\Mw R Aq T q/\T<=cq/\Mw R Ar O r/\O<=cr/\q<b64^m/\x/b64^m=q*(y/b64^m)+r/\x-q*y<y,?_,?_⟩
 ·refine U9 ma ha ?_
  intro A2 n2 c2 k2 aw M2
  refine ⟨_,_,_,rfl,G8 M2 a (by omega) ⟨_,rfl,?_⟩⟩
  have ai:b64^(2*m)*(x/b64^(2*m))+x%b64^(2*m)=x:=aK _ _
  have ag:=aR x (b:=b64^(2*m)) (by have:=D6 (B:=b64) (by decide) (2*m);omega)
  have aa:=aJ x (D6 (B:=b64) (by decide) (2*m))
  generalize x/b64^(2*m)=X2 at *
  rw [D] at ai ag aa
  refine B4 (fun Q=>?_) (fun Q=>?_)
  ·rw [Cc] at Q
   have ht:=B2u (x:=x) (top:=x/b64^m) n (by rw [cI];omega) (by omega) Q
   refine ih hN M1 a k1 (by omega) (by omega) (by omega) hm af ht ?_
   intro A3 n3 c3 A4 n4 c4 h3 p k3 k4 M3 M4
   have G:0<y/b64^m:=by omega
   have d1:=aK (x/b64^m) (y/b64^m)
   have d2:=aJ (x/b64^m) G
   have d0:=M3.nonneg (by decide)
   refine ⟨_,_,_,_,_,_,rfl,_,_,_,_,_,_,_,_,rfl,p,M3,k3,M4,k4,bC G ht,by rw [aP];omega,?_⟩
   generalize (x/b64^m)/(y/b64^m)=q at *
   generalize (x/b64^m)%(y/b64^m)=r at *
   generalize x/b64^m=top at *
   generalize y/b64^m=yh at *
   generalize y%b64^m=yl at *
   generalize x%b64^m=xl at *
   generalize b64^m=P at *
   have o:P*(r+1)<=P*yh:=aG (by omega) (by omega)
   have S:x-q*y=P*r+xl-q*yl:=by rw [<- dx,<- dy,<- d1];grind
   have t3:=aQ d0 ab
   rw [cI] at o
   omega
  ·rw [Cc] at Q
   have ht:=B2v (x:=x) (top:=x/b64^m) (yh:=y/b64^m) (X2:=X2) n (by omega) (by rw [cI];omega) (by omega)
   refine Y4 O8 rfl ?_
   intro b ae
   refine ⟨_,_,_,rfl,?_⟩
   have l4:=Heap.le_put (.cells #[U 18446744073709551615] C0) ae
   refine A3b (v:=18446744073709551615) (SlI.new h b [18446744073709551615] C0 _) hm (by omega) ?_
   intro A5 h5 u s5
   refine ⟨_,_,_,rfl,?_⟩
   have s:=A0 l4 u
   refine Fz (a.mono s) (Mag.zero (k:=.u64) (B:=b64)) (by omega) (by omega) ?_
   intro A6 n6 c6 h6 l6 k6 M6
   refine ⟨_,_,_,rfl,?_⟩
   have i:=A0 s l6
   refine G0 (M1.mono i) M6 k1 (by omega) (by rw [aP];omega) ?_
   intro A7 n7 c7 h7 H k7 M7
   have a7:n7<=an:=M7.len_le (by decide) (by
    have:=ma.lt (by decide)
    have o:=aQ d (aL n)
    have S:1*(x/b64^m)<=b64^m*(x/b64^m):=aD (by omega) w
    omega)
   refine ⟨_,_,_,rfl,?_⟩
   refine O4 M7 ((a.mono i).mono H) k7 (by omega) (by omega) (by omega) ?_
   intro A8 n8 c8 h8 l8 k8 M8
   have C:∀ j:Nat,val b64 (aE j 18446744073709551615)=b64^j-1:=by
    intro j
    induction j with
    | zero=>rfl
    | succ j ihj=>
     rw [List.replicate_succ,val,ihj,aZ]
     show (18446744073709551615:Int)+18446744073709551616*(b64^j-1)=b64^j*18446744073709551616-1
     omega
   have M5:Mw h5 A5 m (b64^m-1):=by
    refine ⟨aE m 18446744073709551615,by simp,s5,?_,?_,C m⟩
    ·intro z hz
     have:=List.eq_of_mem_replicate hz
     subst this;decide
    ·obtain ⟨j,rfl⟩:∃ j,m=j+1:=⟨m-1,by omega⟩
     unfold Norm
     rw [List.replicate_succ']
     simp
   refine ⟨_,_,_,rfl,_,_,_,_,_,_,_,_,rfl,A0 i (A0 H l8),((M5.mono l6).mono H).mono l8,bD _,M8,k8,by omega,?_,?_⟩
   ·grind
   ·have:(b64^m-1)*y=b64^m*y-y:=by grind
    omega
 ·rintro Aq' ao a2 Ar' aj a4 R ⟨Aq,Ar,T,cq,O,cr,q,r,J,lh,M,hq,mr,hr,g,Z,W⟩
  simp only [bO,cL,and_true] at J
  obtain ⟨⟨rfl,rfl,rfl⟩,rfl,rfl,rfl⟩:=J
  have L:=M.nonneg (by decide)
  have ay:=mr.nonneg (by decide)
  have ax:ao<=m:=M.len_le (by decide) g
  have a6:aj<=an:=mr.len_le (by decide) (by
   have:=ma.lt (by decide)
   have o:=aQ L d
   have S:1*(x/b64^m)<=b64^m*(x/b64^m):=aD (by omega) w
   omega)
  refine G1 M (Myl.mono lh) hq (by omega) (by omega) (by omega) ?_
  intro A3 n3 c3 h3 p k3 M3
  refine ⟨_,_,_,rfl,Dx (ma.mono (A0 lh p)) ha (by omega) ?_⟩
  intro A4 n4 c4 k4 ad ap M4
  refine ⟨_,_,_,rfl,Fz (mr.mono p) M4 ad (by omega) ?_⟩
  intro A5 n5 c5 h5 u k5 M5
  have E:=A0 lh (A0 p u)
  refine ⟨_,_,_,rfl,A2x (q0:=q) (m:=m) V (mb.mono E) hb hl2 hbm ((M.mono p).mono u) hq (M3.mono u) ?_ M5 k5 g ?_ W ?_⟩
  ·rw [ah]
   have o:q*(y%b64^m)<=q*b64^m:=aG (by omega) L
   have S:q*b64^m<b64^m*b64^m:=bI g n
   omega
  ·generalize x/b64^m=top at *
   generalize y/b64^m=yh at *
   generalize y%b64^m=yl at *
   generalize x%b64^m=xl at *
   generalize b64^m=P at *
   rw [<- dx,<- dy,Z];grind
  ·intro A6 n6 c6 A7 n7 c7 h7 H k6 k7 M6 M7
   exact hK _ _ _ _ _ _ _ (A0 E H) k6 k7 M6 M7
end
set_option maxHeartbeats 1000000 in
def B9h:∀ N,B6d N:=by
 intro N
 induction N with
 | zero=>intro h K A B S W Z d x y O _ _ _ _ _ _ w;omega
 | succ N ih=>
  intro h K A B S W Z d x y hN n i G q hl k aj g j X
  have aa:=n.nonneg (by decide)
  have ab:=i.nonneg (by decide)
  have e:0<y:=by
   have:=D6 (B:=b64) (by decide) (d-1);omega
  refine Po _ _ _ _ _ _ ?_
  unfold Ls
  have c:aY prog H0 #[.slice A Z S,.slice B d W] h (fun r hp=>∃ (t22aA:Option bN) (t22an:Nat) (t22ac:Nat) (t22bA:Option bN) (t22bn:Nat) (t22bc:Nat),r= .tuple #[.slice t22aA t22an t22ac,.slice t22bA t22bn t22bc]/\K (.tuple #[.slice t22aA t22an t22ac,.slice t22bA t22bn t22bc]) hp):=by
   refine Dd n i G q (by omega) hl (by omega) ?_
   intro A1 m1 c1 A2 m2 c2 h' l E Q M1 M2
   exact ⟨_,_,_,_,_,_,rfl,X _ _ _ _ _ _ _ l E Q M1 M2⟩
  refine B4 (fun O=>c) (fun O=>?_)
  refine N8 (fun w=>c) (fun w=>?_)
  rw [bW (by omega)] at w
  obtain ⟨m,hbm⟩:∃ m,d=2*m:=⟨d/2,by omega⟩
  have eh:B5 (dE ((d:Nat):Int) 2)=(m:Int):=by rw [bB (by omega),B6 (by omega) (by omega)];omega
  simp only [eh]
  have L:=D6 (B:=b64) (by decide) m
  have z:b64^d=b64^m*b64^m:=by rw [<- aW];congr 1;omega
  have dx:b64^m*(x/b64^m)+x%b64^m=x:=aK _ _
  have af:=aR x (b:=b64^m) (by omega)
  have ad:=aJ x L
  rw [z] at j
  refine U9 n G ?_
  intro A1 n1 c1 E ae M1
  refine ⟨_,_,_,rfl,?_⟩
  have T:x/b64^m<b64^m*y:=by
   by_cases hc:x/b64^m<b64^m*y
   ·exact hc
   ·have u:b64^m*(b64^m*y)<=b64^m*(x/b64^m):=aG (by omega) (by omega)
    rw [cD] at j
    omega
  refine Qp ih (by omega) (by omega) hbm M1 i E q (by omega) k g T ?_
  intro A2 n2 c2 A3 n3 c3 h3 C Q k3 M2 M3
  refine ⟨_,_,_,_,_,_,rfl,Dx (n.mono C) G (by omega) ?_⟩
  intro A4 n4 c4 k4 s R M4
  have d1:=aK (x/b64^m) y
  have d2:=aJ (x/b64^m) e
  have d3:=aR (x/b64^m) (b:=y) (by omega)
  have D:x/b64^m/y<b64^m:=bC e T
  have ai:n3<=d:=M3.len_le (by decide) (by have:=i.lt (by decide);omega)
  have ah:n2<=m:=M2.len_le (by decide) D
  refine ⟨_,_,_,rfl,Fz M3 M4 s (by omega) ?_⟩
  intro A5 n5 c5 h5 o k5 M5
  refine ⟨_,_,_,rfl,?_⟩
  have M:(x/b64^m)%y*b64^m+x%b64^m<b64^m*y:=by
   have u:b64^m*((x/b64^m)%y+1)<=b64^m*y:=aG (by omega) (by omega)
   rw [cI,aP] at u
   omega
  have ag:n5<=d+m:=M5.len_le (by decide) (by
   have u:b64^m*y<b64^m*b64^d:=bX (i.lt (by decide)) L
   rw [Nat.add_comm,aW];omega)
  refine Qp ih (by omega) (by omega) hbm M5 (i.mono (A0 C o)) k5 q (by omega) k g M ?_
  intro A6 n6 c6 A7 n7 c7 h7 V k6 k7 M6 M7
  have F:n6<=m:=M6.len_le (by decide) (bC e M)
  refine ⟨_,_,_,_,_,_,rfl,Fz ((M2.mono o).mono V) M6 F (by omega) ?_⟩
  intro A8 n8 c8 h8 J k8 M8
  refine ⟨_,_,_,rfl,?_⟩
  have e1:=aK ((x/b64^m)%y*b64^m+x%b64^m) y
  have e2:=aJ ((x/b64^m)%y*b64^m+x%b64^m) e
  have e3:=aR ((x/b64^m)%y*b64^m+x%b64^m) (b:=y) (by omega)
  have M7':=M7.mono J
  have H:=A0 C (A0 o (A0 V J))
  generalize ((x/b64^m)%y*b64^m+x%b64^m)/y=q2 at *
  obtain ⟨f1,f2⟩:=Yu (x:=x) (a:=((x/b64^m)%y*b64^m+x%b64^m)%y) (b:=x/b64^m/y*b64^m+q2) (p:=y) (by
   generalize ((x/b64^m)%y*b64^m+x%b64^m)%y=r2 at *
   generalize x/b64^m/y=q1 at *
   generalize x/b64^m%y=r1 at *
   generalize x/b64^m=top at *
   generalize x%b64^m=xl at *
   generalize b64^m=P at *
   grind) e3 e2
  refine X _ _ _ _ _ _ _ H k8 k7 ?_ ?_
  ·rw [f1];exact M8
  ·rw [f2];exact M7'
def Vk{ys:List Int}{k t s:Nat}(dy:Dig b64 ys)(hk:ys.length=k+1)(ht:ys.getD k 0=(t:Int))(ht0:t≠0)(hs:s=64-I9 t):s<64/\val b64 ys*2^s<b64^(k+1)/\9223372036854775808*b64^k<=val b64 ys*2^s:=by
 have w:=L6 dy k
 obtain ⟨i,a⟩:=Al (B:=b64) (by decide) dy (m:=k) hk
 rw [ht] at w i a
 obtain ⟨r,p⟩:=Bj ht0
 have o:I9 t<=64:=Ep (k:=64) (by omega)
 have q:1<=I9 t:=by unfold I9;rw [iN ht0];omega
 have d:s<64:=by omega
 have c:0<(2:Int)^s:=bG (by decide)
 have n:=W5 (s:=s) (by omega)
 have b:I9 t=64-s:=by omega
 have j:(t:Int)+1<=2^(64-s):=by
  rw [<- b]
  have:((t+1:Nat):Int)<=((2^I9 t:Nat):Int):=by omega
  simpa using this
 have l:(2:Int)^(63-s)<=t:=by
  have:((2^(I9 t-1):Nat):Int)<=((t:Nat):Int):=by omega
  rw [show I9 t-1=63-s by omega] at this
  simpa using this
 have g:(2:Int)^s*2^(63-s)=9223372036854775808:=by
  rw [<- aW,show s+(63-s)=63 by omega];decide
 have e:=D6 (B:=b64) (by decide) k
 refine ⟨d,?_,?_⟩
 ·have u:val b64 ys*2^s<((t:Int)+1)*b64^k*2^s:=bI i c
  have x:((t:Int)+1)*b64^k*2^s=((t:Int)+1)*2^s*b64^k:=by grind
  have z:((t:Int)+1)*2^s*b64^k<=18446744073709551616*b64^k:=by
   apply aD _ (aL e)
   rw [<- n,aP (2^s)]
   exact aD j (aL c)
  have A:b64^(k+1)=18446744073709551616*b64^k:=by rw [aZ b64 k,aP]
  omega
 ·have y:(t:Int)*b64^k*2^s<=val b64 ys*2^s:=aD a (aL c)
  have u:9223372036854775808*b64^k<=(t:Int)*2^s*b64^k:=by
   apply aD _ (aL e)
   rw [<- g,aP (t:Int)]
   exact aG l (by omega)
  have x:(t:Int)*2^s*b64^k=(t:Int)*b64^k*2^s:=by grind
  omega
section
variable {h g:bJ} {K:VP} {A B:Option bN} {ac bc:Nat}
set_option maxHeartbeats 1000000 in
def A42{D V a b:Int}{S sh dn dc vc bn bq:Nat}{pieces t46:Int}{DA VA:Option bN}(hS:B5 ((B5 (dE (B5 ((B5 (((bn:Nat):Int)+pieces))-(1:Int))) pieces))*pieces)=(S:Int))
 (hsh:B8 (B5 ((B5 ((64:Int)*(B5 ((S:Int)-((bn:Nat):Int)))))+t46))=(sh:Int)) (hS0:0<S) (hS2:S<=200000000) (hsh2:sh<=100000000000) (hb:h bq=none) (hD:Mw h DA dn D) (hdc:dn<=dc) (hdn:0<dn) (hdl:dn<=2000000000) (hV:Mw h VA S V) (hvc:S<=vc) (hVt:9223372036854775808*b64^(S-1)<=V)
 (hDa:D=a*2^sh) (hVb:V=b*2^sh)
 (hK:∀ A1 m1 c1 A2 m2 c2 h',h.le h'->m1<=c1->m2<=c2->Mw h' A1 m1 (a/b)->Mw h' A2 m2 (a%b)->K (.tuple #[.slice A1 m1 c1,.slice A2 m2 c2]) h'):
 Z1 prog bn K pieces t46 VA S vc DA dn dc (some ⟨bq,0,none⟩) (dn+S) (dn+S) (blk .u64 C0 h bq (aE (dn+S) 0)):=by
 have G:=hD.nonneg (by decide)
 have al:=hD.lt (by decide)
 have L:=hV.lt (by decide)
 have q:0<V:=by have:=D6 (B:=b64) (by decide) (S-1);omega
 have Z:0<(2:Int)^sh:=bG (by decide)
 have hQ:=D6 (B:=b64) (by decide) S
 unfold Z1
 simp only [hS,hsh]
 obtain ⟨nb,hnb⟩:∃ nb,nb=(dn-1)/S:=⟨_,rfl⟩
 have aj:nb*S<=dn-1:=by rw [hnb];exact Nat.div_mul_le_self _ _
 have ak:dn-1<nb*S+S:=by
  have E:=dU (dn-1) S
  have h2:=eF (dn-1) hS0
  rw [<- hnb,eG] at E
  omega
 have e1:B5 (B5 (dE (B5 ((dn:Int)-1)) (S:Int))*(S:Int))=((nb+1:Nat):Int)*S-S:=by
  rw [B6 (n:=(dn:Int)-1) (by omega) (by omega),show (dn:Int)-1=((dn-1:Nat):Int) by omega,<- cT,<- hnb]
  have:nb<=dn-1:=by rw [hnb];exact eU _ _
  have X:(nb:Int)*(S:Int)=((nb*S:Nat):Int):=by simp
  rw [B6 (n:=(nb:Int)) (by omega) (by omega),X,B6 (by omega) (by omega),eV,Int.add_mul,X]
  omega
 refine ⟨fun l Z=>∃ (j n c:Nat) (A:Option bN) (d:List Int) (r:Int) (g:bJ),l=[.slice A n c,I ((j:Int)*S-S)]/\h.le g/\j*S+d.length=dn+S/\Dig b64 d/\Win .u64 Z g bq C0 (some ⟨bq,0,none⟩) [] (aE (j*S) 0++d) []/\Mw g A n r/\n<=c/\r=(D/b64^(j*S))%V/\val b64 d=(D/b64^(j*S))/V,fun l _=>(iAt l 1+S).toNat,⟨nb+1,0,0,none,aE (dn-1+1-nb*S) 0,0,h,by rw [e1],B3 h,?_,G4 (by decide) _,?_,Mag.zero,bD _,?_,?_⟩,?_⟩
 ·rw [bY,dJ,dI];omega
 ·rw [cU,show (nb+1)*S+(dn-1+1-nb*S)=dn+S by rw [dJ,dI];omega]
  exact Win.blk .u64 C0 hb _
 ·have:=D5 (B:=b64) (by decide) (show dn<=(nb+1)*S by rw [dJ,dI];omega)
  rw [bK G (by omega),fE]
 ·have:=D5 (B:=b64) (by decide) (show dn<=(nb+1)*S by rw [dJ,dI];omega)
  rw [bK G (by omega),Int.zero_ediv,Au]
 rintro A1 n1 c1 st an ⟨j,n,c,A',d,r,g,J,lg,u,O,w,Mr,av,y,o⟩
 simp only [bO,cL,dA,and_true,true_and] at J
 obtain ⟨⟨rfl,rfl,rfl⟩,rfl⟩:=J
 refine B4 (fun E=>?_) (fun E=>?_)
 ·obtain ⟨i,rfl⟩:∃ i,j=i+1:=⟨j-1,by
   rcases j with _|j
   ·simp at E;omega
   ·rfl⟩
  obtain ⟨e,he⟩:∃ e,e=i*S:=⟨_,rfl⟩
  have H:(i+1)*S=e+S:=by rw [he,dJ,dI]
  have ad:((i+1:Nat):Int)*(S:Int)-(S:Int)=(e:Int):=by rw [<- bU,H];omega
  rw [H] at u w y o
  rw [ad]
  have aw:=D6 (B:=b64) (by decide) e
  refine w.call (U9 (hD.mono lg) hdc ?_)
  intro A2 n2 c2 k2 ap M2 h2 w2
  refine ⟨_,_,_,rfl,w2.call (Dx M2 k2 (by omega) ?_)⟩
  intro A3 n3 c3 k3 ah ai M3 X w3
  have ar:=Mr.nonneg (by decide)
  have a0:r<V:=by rw [y];exact aJ _ q
  have ax:n1<=S:=Mr.len_le (by decide) (by omega)
  refine ⟨_,_,_,rfl,w3.call (Fz Mr M3 ah (by omega) ?_)⟩
  intro A4 n4 c4 g4 l4 k4 M4 h4 w4
  have ab:D/b64^(e+S)=D/b64^e/b64^S:=by rw [aW,dP (by omega)]
  rw [ab] at y o
  have dm:=aK (D/b64^e) (b64^S)
  have ay:=aR (D/b64^e) (b:=b64^S) (by omega)
  have am:=aJ (D/b64^e) hQ
  generalize hD1:D/b64^e=D1 at *
  have s:r*b64^S+D1%b64^S<b64^S*V:=by
   have t1:b64^S*(r+1)<=b64^S*V:=aG (by omega) (by omega)
   rw [cI,aP] at t1
   omega
  have aq:n4<=S+S:=M4.len_le (by decide) (by
   have t1:b64^S*V<b64^S*b64^S:=bX L hQ
   rw [aW];omega)
  have N:=A0 lg l4
  refine ⟨_,_,_,rfl,w4.call (B9h S (bD _) M4 (hV.mono N) k4 hvc (by omega) hS2 hS0 hVt s ?_)⟩
  intro A5 n5 c5 A6 n6 c6 g6 l6 k5 k6 M5 M6 h6 T
  have au:n5<=S:=M5.len_le (by decide) (bC q s)
  refine ⟨_,_,_,_,_,_,rfl,⟨by omega,by omega⟩,?_⟩
  rw [aC]
  have aa:aE (e+S) (0:Int)++d=aE e 0++(aE S 0++d):=by rw [<- bF,cU]
  rw [aa] at T
  have ao:(aE e (0:Int)++(aE S 0++d)).length=dn+S:=by simp only [aN,bY];omega
  have w7:=T.sub (l:=e) (m:=dn+S) (c:=dn+S) (by omega) (by omega) (by omega)
  have e7:((aE e (0:Int)++(aE S 0++d)).drop e).take (dn+S-e)=aE S 0++d:=by
   rw [dC (by simp),aM (by simp only [aN,bY];omega)]
  rw [e7] at w7
  obtain ⟨z,M,ac,af,a1,F⟩:=M5
  refine Eo O8 w7 (by simp only [aN,bY];omega) (ac.mono T.le) M (by simp only [aN,bY];omega) ?_
  intro h8 w8
  rw [cZ (by simp;omega),bA,<- bF z] at w8
  have k:(z++aE (S-z.length) (0:Int)).length=S:=by simp;omega
  have w9:=T.whole (l:=e) (m:=dn+S) (by omega) (by omega) (by rw [aN,k];omega) w8
  rw [cP (by simp),aX (show (aE e (0:Int)++(aE S 0++d)).length<=dn+S by omega),cC] at w9
  have e8:B5 ((e:Int)-(S:Int))=((i:Nat):Int)*S-S:=by
   rw [B6 (by omega) (by omega),he,bU]
  have az:=aK (r*b64^S+D1%b64^S) V
  have R:=aR (r*b64^S+D1%b64^S) (b:=V) (by omega)
  have C:=aJ (r*b64^S+D1%b64^S) q
  have ae:=aK (D1/b64^S) V
  rw [<- y,<- o] at ae
  obtain ⟨f1,f2⟩:=Yu (x:=D1) (a:=(r*b64^S+D1%b64^S)%V) (b:=val b64 z+b64^S*val b64 d) (p:=V) (by
   rw [F]
   generalize (r*b64^S+D1%b64^S)%V=r2 at *
   generalize hq2:(r*b64^S+D1%b64^S)/V=q2 at *
   generalize D1%b64^S=bl at *
   generalize D1/b64^S=D2 at *
   generalize b64^S=Q at *
   generalize val b64 d=W at *
   grind) R C
  refine ⟨_,rfl,?_⟩
  rw [e8]
  refine ⟨⟨i,_,_,_,(z++aE (S-z.length) 0)++d,_,g6,rfl,A0 N l6,?_,?_,?_,M6,k6,?_,?_⟩,?_⟩
  ·rw [aN,k];omega
  ·exact (af.append (G4 (by decide) _)).append O
  ·rw [<- he];exact w9
  ·rw [<- he,hD1,f2]
  ·rw [<- he,hD1,f1,H6,k,Bm]
  ·simp only [iAt,aO,aH]
   rw [<- bU,<- he]
   omega
 ·obtain rfl:j=0:=by
   rcases j with _|j
   ·rfl
   ·rw [<- bU,dJ,dI] at E
    omega
  rw [fI,List.replicate_zero,cA] at w
  rw [fI,fO,Int.ediv_one] at y o
  rw [fI,fJ] at u
  have ag:0<b:=by
   by_cases hc:0<b
   ·exact hc
   ·have:=aD (show b<=0 by omega) (aL Z);omega
  obtain ⟨f1,f2⟩:=Yu (x:=D) (a:=(a%b)*2^sh) (b:=a/b) (p:=V) (by
   have:=aK a b
   rw [hDa,hVb]
   conv=>rhs;rw [<- this]
   grind) (aQ (aR _ (by omega)) (by omega)) (by rw [hVb];exact bI (aJ _ ag) Z)
  refine Hc w.sl O u.symm o (by omega) (by omega) ?_
  intro m2 k2 M2
  refine ⟨_,_,_,rfl,?_⟩
  refine Et (Mr.mono w.le) (by have:=Mr.len_le (j:=S) (by decide) (by have:=aJ D q;omega);omega) (by omega) ?_
  intro A3 n3 c3 X l3 k3 M3
  rw [y,f2,eD _ (by omega)] at M3
  rw [f1] at M2
  exact ⟨_,_,_,rfl,hK _ _ _ _ _ _ _ (A0 lg (A0 w.le l3)) k2 k3 (M2.mono l3) M3⟩
set_option maxHeartbeats 1000000 in
def No{x y:Int}{an bn:Nat}(ma:Mw h A an x)(mb:Mw h B bn y)(ha:an<=ac)(hbc:bn<=bc)(hl:an<=800000000)(hl2:bn<=100000000)(ha0:0<an)(hb0:0<bn)
 (hK:∀ A1 m1 c1 A2 m2 c2 h',h.le h'->m1<=c1->m2<=c2->Mw h' A1 m1 (x/y)->Mw h' A2 m2 (x%y)->K (.tuple #[.slice A1 m1 c1,.slice A2 m2 c2]) h'):aY prog Bf #[.slice A an ac,.slice B bn bc] h K:=by
 have ad:=ma.nonneg (by decide)
 have ai:=ma.len_zero (by decide)
 have u:=ma.lt (by decide)
 refine Pp _ _ _ _ _ _ ?_
 unfold Lu Gv
 refine ⟨fun l hp=>hp=h/\∃ p:Nat,l=[I p]/\0<p/\p<=bn,fun l _=>bn-(iAt l 0).toNat,⟨rfl,1,rfl,by omega,by omega⟩,?_⟩
 rintro w hp ⟨rfl,p,Q,r,ag⟩
 obtain rfl:=sI1 Q
 have X:B5 (dE (B5 (B5 ((bn:Int)+(p:Int))-1)) (p:Int))=(((bn+p-1)/p:Nat):Int):=by
  rw [B6 (n:=(bn:Int)+p) (by omega) (by omega),B6 (n:=(bn:Int)+p-1) (by omega) (by omega),show (bn:Int)+p-1=((bn+p-1:Nat):Int) by omega,<- cT]
  have:(bn+p-1)/p<=bn+p-1:=eU _ _
  generalize (bn+p-1)/p=q at *
  rw [B6 (by omega) (by omega)]
 refine B4 (fun c=>by omega) (fun _=>?_)
 obtain ⟨S,hS⟩:∃ S,S=(bn+p-1)/p*p:=⟨_,rfl⟩
 have af:bn<=S/\S<=bn+p-1:=by
  have c:=dU (bn+p-1) p
  have J:=eF (bn+p-1) r
  rw [eG,<- hS] at c
  omega
 have e2:B5 ((B5 (dE (B5 (B5 ((bn:Int)+(p:Int))-1)) (p:Int)))*(p:Int))=(S:Int):=by
  rw [X,<- bU,<- hS,B6 (by omega) (by omega)]
 refine B4 (fun c=>?_) (fun c=>?_)
 ·rw [X] at c
  have J:80<=(bn+p-1)/p:=by omega
  rw [Nat.le_div_iff_mul_le r] at J
  have L:B5 ((p:Int)*2)=((p*2:Nat):Int):=by rw [B6 (by omega) (by omega)];omega
  rw [L]
  exact ⟨⟨rfl,_,rfl,by omega,by omega⟩,by simp only [iAt,aH];omega⟩
 ·refine B4 (fun c=>by omega) (fun _=>?_)
  obtain ⟨k,hk⟩:∃ k,bn=k+1:=⟨bn-1,by omega⟩
  have T:=mb
  obtain ⟨a,M,sy,Z,ny,rfl⟩:=mb
  have d:a.length=k+1:=by omega
  have gt:=L6 Z k
  have H:=A09 d ny
  have L:B5 ((bn:Int)-1)=(k:Int):=by rw [B6 (by omega) (by omega)];omega
  rw [L]
  subst M
  refine sy.load rfl (by omega) (by omega) ?_
  rw [aC]
  obtain ⟨t,ht⟩:∃ t:Nat,a.getD k 0=t:=⟨(a.getD k 0).toNat,by omega⟩
  rw [ht] at gt H ⊢
  refine O0 (by omega) ⟨_,rfl,?_⟩
  obtain ⟨s,hs⟩:∃ s,s=64-I9 t:=⟨_,rfl⟩
  rw [<- hs]
  obtain ⟨aa,R,O⟩:=Vk Z d ht (by omega) hs
  simp only [e2]
  obtain ⟨sh,hsh⟩:∃ sh,sh=64*(S-a.length)+s:=⟨_,rfl⟩
  have W:B8 (B5 (B5 (64*B5 ((S:Int)-(a.length:Int)))+(s:Int)))=(sh:Int):=by
   rw [B6 (n:=(S:Int)-(a.length:Int)) (by omega) (by omega),B6 (n:=64*((S:Int)-(a.length:Int))) (by omega) (by omega),B6 (by omega) (by omega),B9 (by omega) (by omega)]
   omega
  simp only [W]
  have g:(2:Int)^sh=2^s*b64^(S-a.length):=by rw [hsh,aW,Fw,aP]
  have i:=D6 (B:=b64) (by decide) (S-a.length)
  have ah:0<(2:Int)^s:=bG (by decide)
  have j:0<(2:Int)^sh:=bG (by decide)
  have ae:val b64 a*2^sh=val b64 a*2^s*b64^(S-a.length):=by rw [g,cD]
  have F:val b64 a*2^sh<b64^S:=by
   have z:val b64 a*2^s*b64^(S-a.length)<b64^(k+1)*b64^(S-a.length):=bI R i
   rw [<- aW,show k+1+(S-a.length)=S by omega] at z
   omega
  have G:9223372036854775808*b64^(S-1)<=val b64 a*2^sh:=by
   have z:9223372036854775808*b64^k*b64^(S-a.length)<=val b64 a*2^s*b64^(S-a.length):=aD O (aL i)
   rw [cD,<- aW,show k+(S-a.length)=S-1 by omega] at z
   omega
  refine Q9 T hbc (by omega) (by omega) ?_
  intro A1 b c1 c l1 k1 M1
  refine ⟨_,_,_,rfl,?_⟩
  have N:b=S:=by
   have q1:=M1.len_le (by decide) F
   have q2:=M1.lt (by decide)
   by_cases hc:b=S
   ·exact hc
   ·have:=D5 (B:=b64) (by decide) (show b<=S-1 by omega)
    have:=D6 (B:=b64) (by decide) (S-1)
    omega
  subst N
  refine Q9 (ma.mono l1) ha (by omega) (by omega) ?_
  intro A2 o c2 J l2 k2 M2
  refine ⟨_,_,_,rfl,?_⟩
  have ab:o<=an+(1+(b-a.length)):=M2.len_le (by decide) (by
   have z:x*2^sh<b64^an*2^sh:=bI u j
   have t2:(2:Int)^sh<=b64^(1+(b-a.length)):=by
    rw [g,aW]
    apply aD _ (aL i)
    have:=D5 (B:=2) (by decide) (show s<=64 by omega)
    have e:(2:Int)^64=18446744073709551616:=by decide
    show (2:Int)^s<=b64^1
    rw [aZ,fO]
    show (2:Int)^s<=1*18446744073709551616
    omega
   have t3:b64^an*2^sh<=b64^an*b64^(1+(b-a.length)):=aG t2 (aL (D6 (by decide) an))
   rw [aW b64 an]
   omega)
  have m:0<o:=by
   rcases Nat.eq_zero_or_pos o with C|C
   ·have:=(M2.len_zero (by decide)).2 C
    rcases Int.mul_eq_zero.1 this with h3|h3<;>omega
   ·exact C
  have e5:B5 ((o:Int)+(b:Int))=((o+b:Nat):Int):=by rw [B6 (by omega) (by omega)];omega
  rw [e5]
  refine I3 O8 (by omega) (by omega) (by omega) ?_
  intro bq E
  rw [aC]
  refine ⟨_,_,_,rfl,?_⟩
  refine B4 (fun c=>by omega) (fun _=>?_)
  refine A42 (D:=x*2^sh) (V:=val b64 a*2^sh) (sh:=sh) (S:=b) e2 W (by omega) (by omega) (by omega) E M2 k2 m (by omega) (M1.mono l2) k1 G rfl rfl ?_
  intro A3 n3 c3 A4 n4 c4 h4 l4 k3 k4 M3 M4
  exact hK _ _ _ _ _ _ _ (A0 l1 (A0 l2 l4)) k3 k4 M3 M4
def Y7{x y:Int}{an bn:Nat}(ma:Mw h A an x)(mb:Mw h B bn y)(ha:an<=ac)(hbc:bn<=bc)(hy:y≠0)(hl:an<=800000000)(hl2:bn<=100000000)
 (hK:∀ A1 m1 c1 A2 m2 c2 h',h.le h'->m1<=c1->m2<=c2->Mw h' A1 m1 (x/y)->Mw h' A2 m2 (x%y)->K (.tuple #[.slice A1 m1 c1,.slice A2 m2 c2]) h'):aY prog P6 #[.slice A an ac,.slice B bn bc] h K:=by
 refine Tj _ _ _ _ _ _ ?_
 unfold Pb
 have a:aY prog H0 #[.slice A an ac,.slice B bn bc] h (fun r d=>∃ (t22aA:Option bN) (t22an:Nat) (t22ac:Nat) (t22bA:Option bN) (t22bn:Nat) (t22bc:Nat),r= .tuple #[.slice t22aA t22an t22ac,.slice t22bA t22bn t22bc]/\K (.tuple #[.slice t22aA t22an t22ac,.slice t22bA t22bn t22bc]) d):=by
  refine Dd ma mb ha hbc hy (by omega) (by omega) ?_
  intro A1 m1 c1 A2 m2 c2 h' l b c M1 M2
  exact ⟨_,_,_,_,_,_,rfl,hK _ _ _ _ _ _ _ l b c M1 M2⟩
 refine B4 (fun g=>B4 (fun e=>?_) (fun _=>a)) (fun _=>a)
 rw [B6 (by omega) (by omega)] at e
 refine No ma mb ha hbc hl hl2 (by omega) (by omega) ?_
 intro A1 m1 c1 A2 m2 c2 h' l b c M1 M2
 exact ⟨_,_,_,_,_,_,rfl,hK _ _ _ _ _ _ _ l b c M1 M2⟩
end
def TZ(x k:Nat):Prop:=∃ m,x=2^k*(2*m+1)
def TZ.ex:∀ {x:Nat},x≠0->∃ k,TZ x k:=by
 intro x
 induction x using Nat.strongRecOn with
 | _ x ih=>
  intro h
  rcases Nat.mod_two_eq_zero_or_one x with a|a
  ·obtain ⟨k,m,b⟩:=ih (x/2) (by omega) (by omega)
   refine ⟨k+1,m,?_⟩
   rw [Nat.pow_succ,eG (2^k),eE,<- b];omega
  ·exact ⟨0,x/2,by omega⟩
def TZ.lt{x k n:Nat}(h:TZ x k)(hx:x<2^n):k<n:=by
 obtain ⟨m,rfl⟩:=h
 have b:2^k*1<=2^k*(2*m+1):=Nat.mul_le_mul_left _ (by omega)
 exact (Nat.pow_lt_pow_iff_right (a:=2) (by decide)).1 (by omega)
def A92{a u v:Nat}:(2^a*u) ||| (2^a*v)=2^a*(u ||| v):=by
 apply Nat.eq_of_testBit_eq
 intro i
 simp only [Nat.testBit_or,fF,Bool.and_or_distrib_left]
def B56{u v:Nat}(h:u%2=1\/v%2=1):(u ||| v)%2=1:=by simpa using h
def TZ.or'{x y a b:Nat}(hx:TZ x a)(hy:TZ y b)(hab:a<=b):TZ (x ||| y) a/\TZ (y ||| x) a:=by
 obtain ⟨m,rfl⟩:=hx
 obtain ⟨n,rfl⟩:=hy
 obtain ⟨d,rfl⟩:∃ d,b=a+d:=⟨b-a,by omega⟩
 rw [Nat.pow_add,eE,A92,A92]
 have e:=B56 (u:=2*m+1) (v:=2^d*(2*n+1)) (.inl (by omega))
 have c:=B56 (u:=2^d*(2*n+1)) (v:=2*m+1) (.inr (by omega))
 exact ⟨⟨_/2,by rw [<- dU (_ ||| _) 2,e]⟩,⟨_/2,by rw [<- dU (_ ||| _) 2,c]⟩⟩
def TZ.or{x y a b:Nat}(hx:TZ x a)(hy:TZ y b):TZ (x ||| y) (min a b):=by
 by_cases h:a<=b
 ·rw [aI h];exact (hx.or' hy h).1
 ·rw [dM (by omega)];exact (hy.or' hx (by omega)).2
def TZ.bit{x k:Nat}(h:TZ x k)(hx:x<2^64):x &&& (2^64-x)=2^k:=by
 obtain ⟨m,rfl⟩:=h
 have j:0<2^k:=cY (by decide)
 have e:2^k*(2*m+1)=2^k*(2*m)+(2^k-1)+1:=by rw [Nat.mul_add,eA];omega
 apply Nat.eq_of_testBit_eq
 intro i
 rw [Nat.testBit_and]
 have c:(2^64-2^k*(2*m+1)).testBit i=(decide (i<64) && !(2^k*(2*m)+(2^k-1)).testBit i):=by
  rw [e];exact Nat.testBit_two_pow_sub_succ (by omega) i
 rw [c,Nat.testBit_two_pow_mul_add _ (by omega),fF,Nat.testBit_two_pow]
 by_cases b:i<k
 ·simp [b,show ¬ i>=k by omega,show ¬ k=i by omega]
 ·by_cases g:i=k
  ·subst g
   have a:i<64:=TZ.lt ⟨m,rfl⟩ hx
   simp [a,Nat.testBit_zero]
  ·obtain ⟨d,hd⟩:∃ d,i-k=d+1:=⟨i-k-1,by omega⟩
   rw [iN b,hd,Nat.testBit_succ,Nat.testBit_succ,show (2*m+1)/2=m by omega,show 2*m/2=m by omega]
   simp only [show ¬ k=i by omega,decide_false]
   cases m.testBit d<;>simp
def Xe{o k:Nat}(h:o%2=1):Nat.Coprime (2^k) o:=Nat.Coprime.pow_left k (by unfold Nat.Coprime;rw [Nat.gcd_rec,h];rfl)
def B79{x y a b m:Nat}(hx:x=2^a*(2*m+1))(hy:TZ y b):cX x y=2^(min a b)*cX (2*m+1) y:=by
 obtain ⟨n,rfl⟩:=hy
 subst hx
 have c:cX (2*m+1) (2^b*(2*n+1))=cX (2*m+1) (2*n+1):=cN (2*n+1) (Xe (by omega))
 rw [c]
 by_cases h:a<=b
 ·obtain ⟨d,rfl⟩:∃ d,b=a+d:=⟨b-a,by omega⟩
  rw [aI h,Nat.pow_add,eE,Nat.gcd_mul_left,cN _ (Xe (by omega))]
 ·obtain ⟨d,rfl⟩:∃ d,a=b+d:=⟨a-b,by omega⟩
  rw [dM (by omega),Nat.pow_add,eE,Nat.gcd_mul_left,Nat.Coprime.gcd_mul_left_cancel _ (Xe (by omega))]
def A05(k:Nat):Nat:=(2^k*285870213051353865%18446744073709551616)/2^58
def Gtz(h:bJ):Prop:=∀ k,k<64->h.cell? (eC ⟨0,0,none⟩ (A05 k*1))=some (Y k)
def Gtz.mono{h h':bJ}(g:Gtz h)(l:h.le h'):Gtz h':=fun k a=>D4 l (g k a)
section
variable {h g:bJ} {K:VP} {A B:Option bN} {ac bc:Nat}
def Iq{x k:Nat}(gl:Gtz h)(tz:TZ x k)(hx:x<18446744073709551616)(hK:K (I k) h):aY prog I8 #[U x] h K:=by
 have a:=tz.lt (n:=64) hx
 have g:x≠0:=by
  obtain ⟨m,rfl⟩:=tz
  have:0<2^k:=cY (by decide)
  have:=Nat.mul_pos this (show 0<2*m+1 by omega)
  omega
 refine Jm _ ?_
 unfold Fd
 refine D9 (fun e=>by omega) (fun _=>?_)
 have c:B8 (0-(x:Int))=((2^64-x:Nat):Int):=by
  rw [D8];omega
 have b:Lk .u64 (x:Int) ((2^64-x:Nat):Int)=((2^k:Nat):Int):=by
  rw [B0g (by omega) (by omega),aC,aC,tz.bit hx]
 have d:dH (B8 (((2^k:Nat):Int)*285870213051353865)) (2^(min ((58:Int)).toNat 64))=((A05 k:Nat):Int):=by
  show dH _ (2^(min 58 64))=_
  rw [B2f (by decide),D8]
  unfold A05
  rw [dN,eR,bU]
  rfl
 rw [c,b,d,aC]
 have i:A05 k<64:=by
  unfold A05
  have:(2^k*285870213051353865)%18446744073709551616<18446744073709551616:=eF _ (by decide)
  exact Nat.div_lt_of_lt_mul (by omega)
 refine ⟨⟨by omega,by omega⟩,_,gl k a,?_⟩
 rw [B6 (by omega) (by omega)]
 exact hK
def A1f{x y:Nat}(gl:Gtz h)(hx:x<18446744073709551616)(hy:y<18446744073709551616)(hK:K (U (cX x y:Nat)) h):aY prog Nh #[U x,U y] h K:=by
 refine A48 _ _ ?_
 unfold A5r
 refine D9 (fun e=>?_) (fun e=>?_)
 ·obtain rfl:x=0:=by omega
  rw [A41 (by omega) (by omega)]
  simpa using hK
 refine D9 (fun L=>?_) (fun L=>?_)
 ·obtain rfl:y=0:=by omega
  rw [A41 (by omega) (by omega)]
  simpa using hK
 obtain ⟨a,k⟩:=TZ.ex (x:=x) (by omega)
 obtain ⟨b,p⟩:=TZ.ex (x:=y) (by omega)
 have V:=k.lt (n:=64) hx
 have S:=p.lt (n:=64) hy
 rw [A41 (by omega) (by omega),aC,aC]
 have r:x ||| y<18446744073709551616:=Nat.or_lt_two_pow (n:=64) hx hy
 refine Iq gl (k.or p) r ⟨_,rfl,?_⟩
 refine Iq gl k hx ⟨_,rfl,?_⟩
 refine B4 (fun j=>by omega) (fun _=>?_)
 obtain ⟨m,s⟩:=k
 have J:=B79 s p
 have D:dH (x:Int) (2^(min ((a:Int)).toNat 64))=((2*m+1:Nat):Int):=by
  rw [aC,B2f (by omega),show ((2:Int)^a)=((2^a:Nat):Int) by simp,<- dN,s,fG _ (cY (by decide))]
 rw [D]
 have A:2*m+1<=x:=by
  rw [s];exact fK _ (cY (by decide))
 refine ⟨fun l M=>M=h/\∃ u v:Nat,l=[U u,U v]/\u%2=1/\u<18446744073709551616/\v<18446744073709551616/\cX u v=cX (2*m+1) y,fun l _=>(iAt l 0+iAt l 1).toNat,⟨rfl,2*m+1,y,rfl,by omega,by omega,hy,rfl⟩,?_⟩
 rintro T Q O ⟨rfl,u,v,z,H,F,i,d⟩
 simp only [bO,dA,and_true,true_and] at z
 obtain ⟨rfl,rfl⟩:=z
 refine N8 (fun j=>?_) (fun j=>?_)
 ·obtain ⟨c,o⟩:=TZ.ex (x:=v) (by omega)
  have R:=o.lt (n:=64) i
  refine Iq gl o i ⟨_,rfl,?_⟩
  refine B4 (fun j=>by omega) (fun _=>?_)
  obtain ⟨n,w⟩:=o
  have G:dH (v:Int) (2^(min ((c:Int)).toNat 64))=((2*n+1:Nat):Int):=by
   rw [aC,B2f (by omega),show ((2:Int)^c)=((2^c:Nat):Int) by simp,<- dN,w,fG _ (cY (by decide))]
  have B:2*n+1<=v:=by
   rw [w];exact fK _ (cY (by decide))
  have g:cX u (2*n+1)=cX u v:=by
   rw [w,cN _ (Xe H)]
  rw [G]
  refine B4 (fun N=>?_) (fun N=>?_)
  ·have q:B8 ((u:Int)-((2*n+1:Nat):Int))=((u-(2*n+1):Nat):Int):=by rw [B9 (by omega) (by omega)];omega
   rw [q]
   refine ⟨⟨rfl,_,_,rfl,by omega,by omega,by omega,?_⟩,?_⟩
   ·rw [fL (by omega),fM,g,d]
   ·simp only [iAt,aH,aO];omega
  ·have q:B8 (((2*n+1:Nat):Int)-(u:Int))=((2*n+1-u:Nat):Int):=by rw [B9 (by omega) (by omega)];omega
   rw [q]
   refine ⟨⟨rfl,_,_,rfl,by omega,by omega,by omega,?_⟩,?_⟩
   ·rw [fL (by omega),g,d]
   ·simp only [iAt,aH,aO];omega
 ·refine B4 (fun j=>by omega) (fun _=>?_)
  obtain rfl:v=0:=by omega
  rw [Nat.gcd_zero_right] at d
  rw [aC,aI (show min a b<=64 by omega)]
  have C:(u:Int)*2^(min a b)=((cX x y:Nat):Int):=by
   rw [J,<- d,bU,aP];simp
  have E:cX x y<=x:=Nat.le_of_dvd (by omega) (Nat.gcd_dvd_left x y)
  rw [C,B9 (by omega) (by omega)]
  exact hK
end
def A8h{xs:List Int}(d:Dig b64 xs){k s:Nat}(hl:xs.length<=k+2)(hs:s<=64):val b64 xs/(b64^k*2^(64-s))=xs.getD (k+1) 0*2^s+xs.getD k 0/2^(64-s):=by
 have c:=C2 b64 xs (k+1)
 have i:=C2 b64 xs k
 rw [aM (show xs.length<=k+1+1 by omega)] at c
 have e:=D6 (B:=b64) (by decide) k
 have j:0<(2:Int)^(64-s):=bG (by decide)
 have b:=W5 (s:=s) hs
 have l:=C5 (by decide) (d.take k)
 have n:=I5 (by decide) (d.take k)
 have m:=D5 (B:=b64) (by decide) (show (xs.take k).length<=k by rw [aF];omega)
 rw [<- dP (aL e)]
 have g:val b64 xs/b64^k=xs.getD k 0+18446744073709551616*xs.getD (k+1) 0:=by
  refine (Yu (a:=val b64 (xs.take k)) ?_ l (by omega)).1
  rw [c,i,aZ]
  show _=val b64 (xs.take k)+_+b64^k*18446744073709551616*_
  grind
 rw [g,<- b,aP (2^s),cD,dY _ _ (by omega),aP (2^s)]
 omega
section
variable {h g:bJ} {K:VP} {A B:Option bN} {ac bc:Nat}
def B83(a b u0 u1 v0 v1:Int)(odd:Bool):Prop:=(0<=u0/\u0<18446744073709551616)/\(0<=u1/\u1<18446744073709551616)/\(0<=v0/\v0<18446744073709551616)/\(0<=v1/\v1<18446744073709551616)/\(v0≠0->Leh a b u0 v0 u1 v1 (Ix a b u0 v0 odd) (Iw a b u1 v1 odd))
def B34{a b F S W t20 t26 t33:Int}(hF:F=bor .u64 (B8 (t26*2^(min (B8 t20).toNat 64))) (dH t33 (2^(min (B8 ((64:Int)-(B8 t20))).toNat 64))))(hW:0<W)(hFa:F=a/W)(hSb:S=b/W)(hb0:0<=b)(hba:b<=a)(hF64:F<18446744073709551616)
 (hK:∀ u0 u1 v0 v1 odd,B83 a b u0 u1 v0 v1 odd->K (.agg #[U u0,U u1,U v0,U v1,.bool odd]) h):Gu prog K t20 t26 t33 S h:=by
 have da:=aK a W
 have db:=aK b W
 have u:=aR a (b:=W) (by omega)
 have s:=aJ a hW
 have y:=aR b (b:=W) (by omega)
 have w:=aJ b hW
 have x:0<=S:=by rw [hSb];exact bM hb0 (by omega)
 have z:S<=F:=by rw [hSb,hFa];exact Int.ediv_le_ediv hW hba
 unfold Gu
 rw [<- hF]
 refine ⟨fun l C=>C=h/\∃ (first c i d u0 u1 v0 v1:Int) (odd:Bool),l=[U first,U c,U i,U d,U u0,U u1,U v0,U v1,.bool odd]/\LS F S first c u0 v0 u1 v1 i d odd/\B83 a b u0 u1 v0 v1 odd/\i<=F/\d<=(if F=0 then 1 else F),fun l _=>(iAt l 1).toNat,⟨rfl,_,_,_,_,_,_,_,_,_,rfl,LS.init x z,⟨by omega,by omega,by omega,by omega,fun e=>absurd rfl e⟩,by omega,by split<;>omega⟩,?_⟩
 rintro first c i d u0 u1 v0 v1 odd C ⟨rfl,r,k,E,Z,M,X,G,J,D,B,j,q,H,aa⟩
 simp only [bO,dA,Value.bool.injEq,and_true,true_and] at B
 obtain ⟨rfl,rfl,rfl,rfl,rfl,rfl,rfl,rfl,rfl⟩:=B
 have A:=j.v2pos
 have p:=j.ord
 have T:=j.hF
 refine B4 (fun h1=>?_) (fun _=>hK _ _ _ _ _ q)
 have m:1<=c:=by omega
 have V:=j.bound2 m
 have O:first<=F:=by
  have t1:1*first<=d*first:=aD (by omega) (by omega)
  have t2:=aQ (show 0<=v1 by omega) p.1
  omega
 rw [B9 (n:=first-c) (by omega) (by omega),B9 (n:=v1+d) (by omega) (by omega)]
 refine B4 (fun h2=>?_) (fun _=>hK _ _ _ _ _ q)
 refine B4 (fun e=>by omega) (fun _=>?_)
 refine B4 (fun e=>by omega) (fun _=>?_)
 rw [bW (by omega),bB (by omega)]
 have g:=j.step (by omega) (by omega)
 have N:=g.bound m
 have o:0<=first/c:=bM (by omega) (by omega)
 have L:first/c<=first:=dO _ (by omega)
 have Q:=aQ o (show 0<=i by omega)
 have R:=aQ o (show 0<=d by omega)
 rw [B9 (n:=first/c) (by omega) (by omega),B9 (n:=first/c*i) (by omega) (by omega),B9 (n:=first/c*d) (by omega) (by omega),B9 (n:=u1+first/c*i) (by omega) (by omega),B9 (n:=v1+first/c*d) (by omega) (by omega)]
 refine ⟨⟨rfl,_,_,_,_,_,_,_,_,_,rfl,g,⟨⟨by omega,q.2.1.2⟩,⟨by omega,by omega⟩,⟨by omega,q.2.2.2.1.2⟩,⟨by omega,by omega⟩,fun e=>g.leh e hW (al:=a%W) (bl:=b%W) ?_ ?_ ⟨u,s⟩ ⟨y,w⟩⟩,by omega,by split<;>omega⟩,?_⟩
 ·rw [hFa,aP];omega
 ·rw [hSb,aP];omega
 ·have:=aJ first (show 0<c by omega)
  have:=aR first (show c≠0 by omega)
  simp only [iAt,aO,aH];omega
set_option maxHeartbeats 1000000 in
def Xk{a b:Int}{an bn:Nat}(ma:Mw h A an a)(mb:Mw h B bn b)(hba:b<=a)(hb2:2<=bn)(hl:an<=1000000000)
 (hK:∀ u0 u1 v0 v1 odd,B83 a b u0 u1 v0 v1 odd->K (.agg #[U u0,U u1,U v0,U v1,.bool odd]) h):aY prog Jd #[.slice A an ac,.slice B bn bc] h K:=by
 have N:=mb.nonneg (by decide)
 have ab:bn<=an:=mb.len_le (by decide) (cJ hba (ma.lt (by decide)))
 obtain ⟨k,rfl⟩:∃ k,an=k+2:=⟨an-2,by omega⟩
 obtain ⟨p,j,T,E,nx,rfl⟩:=ma
 obtain ⟨g,n,Q,M,ny,rfl⟩:=mb
 refine A1v _ _ _ _ _ _ ?_
 unfold A1w
 have e1:B5 (((k+2:Nat):Int)-1)=((k+1:Nat):Int):=by rw [B6 (by omega) (by omega)];omega
 have e2:B5 (((k+2:Nat):Int)-2)=(k:Int):=by rw [B6 (by omega) (by omega)];omega
 simp only [e1,e2]
 have gt:=L6 E (k+1)
 have J:=L6 E k
 have R:=A09 (m:=k+1) j.symm nx
 obtain ⟨t,ht⟩:∃ t:Nat,p.getD (k+1) 0=t:=⟨(p.getD (k+1) 0).toNat,by omega⟩
 rw [j]
 refine T.load rfl (by omega) (by omega) ?_
 rw [aC,ht]
 rw [ht] at gt R
 refine O0 (by omega) ⟨_,rfl,?_⟩
 obtain ⟨s,hs⟩:∃ s,s=64-I9 t:=⟨_,rfl⟩
 rw [<- hs]
 obtain ⟨aa,x,ae⟩:=Vk E j.symm ht (by omega) hs
 refine T.load rfl (by omega) (by omega) ?_
 simp only [aC,ht]
 have i:B8 (s:Int)=s:=B9 (by omega) (by omega)
 have c:B8 (64-(s:Int))=((64-s:Nat):Int):=by rw [B9 (by omega) (by omega)];omega
 refine B4 (fun e=>by rw [i] at e;omega) (fun _=>?_)
 refine T.load rfl (by omega) (by omega) ?_
 simp only [aC]
 refine B4 (fun e=>by rw [i,c] at e;omega) (fun _=>?_)
 have V:0<(2:Int)^s:=bG (by decide)
 have o:0<(2:Int)^(64-s):=bG (by decide)
 have C:=W5 (s:=s) (by omega)
 have X:=D6 (B:=b64) (by decide) k
 have O:0<b64^k*2^(64-s):=Int.mul_pos X o
 have r:=A8h E (k:=k) (s:=s) (by omega) (by omega)
 have d:=A8h M (k:=k) (s:=s) (by omega) (by omega)
 have w:val b64 p/(b64^k*2^(64-s))<18446744073709551616:=by
  apply bC O
  have G:18446744073709551616*(b64^k*2^(64-s))*2^s=18446744073709551616*b64^k*(2^s*2^(64-s)):=by grind
  rw [C] at G
  have L:b64^(k+1+1)=18446744073709551616*b64^k*18446744073709551616:=by
   rw [aZ,aZ]
   show b64^k*18446744073709551616*18446744073709551616=_
   grind
  rw [L,<- G] at x
  exact Int.lt_of_mul_lt_mul_right x (by omega)
 have ad:val b64 g/(b64^k*2^(64-s))<=val b64 p/(b64^k*2^(64-s)):=Int.ediv_le_ediv O hba
 have q1:∀ z:Int,0<=z/\z<18446744073709551616->0<=z/2^(64-s)/\z/2^(64-s)<2^s:=fun z D=>
  ⟨bM D.1 (by omega),bC o (by rw [C];exact D.2)⟩
 have y:∀ u z:Int,0<=u->0<=z/\z<18446744073709551616->u*2^s+z/2^(64-s)<18446744073709551616->bor .u64 (B8 (u*2^(min (B8 (s:Int)).toNat 64))) (dH z (2^(min (B8 (64-B8 (s:Int))).toNat 64)))=u*2^s+z/2^(64-s):=by
  intro u z Z D S
  have:=q1 z D
  have:=aQ Z (aL V)
  rw [i,c,aC,aC,B2f (by omega),aI (show s<=64 by omega),B9 (by omega) (by omega),A1n Z (by omega) S]
 have gy:=L6 M (k+1)
 have W:=L6 M k
 rw [ht] at r
 refine ⟨fun l hp=>hp=h/\l=[U (val b64 g/(b64^k*2^(64-s)))],?_,?_⟩
 ·refine D9 (fun e=>?_) (fun e=>?_)
  ·rw [n]
   refine Q.load rfl (by omega) (by omega) ?_
   simp only [aC]
   refine B4 (fun e=>by rw [i] at e;omega) (fun _=>?_)
   refine Q.load rfl (by omega) (by omega) ?_
   simp only [aC]
   refine B4 (fun e=>by rw [i,c] at e;omega) (fun _=>?_)
   rw [y _ _ gy.1 W (by omega),d]
   first|exact ⟨rfl,rfl⟩|exact ⟨trivial,rfl⟩
  ·refine D9 (fun e=>?_) (fun e=>?_)
   ·rw [n]
    refine Q.load rfl (by omega) (by omega) ?_
    simp only [aC]
    refine B4 (fun e=>by rw [i,c] at e;omega) (fun _=>?_)
    have:g.getD (k+1) 0=0:=by simp [cK,bZ (show g.length<=k+1 by omega)]
    rw [this,dQ,cO] at d
    rw [i,c,aC,B2f (by omega),d]
    first|exact ⟨rfl,rfl⟩|exact ⟨trivial,rfl⟩
   ·have G:g.getD (k+1) 0=0:=by simp [cK,bZ (show g.length<=k+1 by omega)]
    have L:g.getD k 0=0:=by simp [cK,bZ (show g.length<=k by omega)]
    rw [G,L,dQ,cO,Int.zero_ediv] at d
    rw [d]
    exact ⟨rfl,rfl⟩
 ·rintro H af ⟨rfl,q⟩
  simp only [bO,dA,and_true,true_and] at q
  subst q
  exact B34 (F:=val b64 p/(b64^k*2^(64-s))) (by rw [y _ _ (by omega) J (by omega),r]) O rfl rfl N hba w hK
end
def Win.swap{k k':cV}{h g1 g:bJ}{ba bb:Nat}{e e':cH}{A B:Option bN}{pa qa pb qb:List dZ}{us bs:List Int}(wa:Win k h g1 ba e A pa us qa)(wb:Win k' g1 g bb e' B pb bs qb):∃ g2,Win k' h g2 bb e' B pb bs qb/\Win k g2 g ba e A pa us qa:=by
 have a:ba≠bb:=by
  rintro rfl
  have:=wa.free
  rw [wb.eq,C4] at this
  cases this
 have b:g ba=none:=by
  have:=wa.free
  rwa [wb.eq,B7 _ _ a] at this
 refine ⟨g.put ba (.cells (pa++us.map (bH k)++qa).toArray e),⟨?_,?_,wb.at_⟩,⟨b,rfl,wa.at_⟩⟩
 ·rw [B7 _ _ a.symm];exact wb.free
 ·rw [wa.eq,wb.eq];exact Heap.put_comm _ _ _ a.symm
def Xi{z y c:Int}(hz:0<=z/\z<18446744073709551616)(hy:0<=y/\y<18446744073709551616)(hc:0<=c/\c<=1):(z-y-c)%18446744073709551616=z-y-c+18446744073709551616*(if z-y-c<0 then 1 else 0):=by
 split<;>omega
def A13(z:Int):z%18446744073709551616=z-18446744073709551616*(z/18446744073709551616):=by omega
def Ki{x y c:Int}(hx:0<=x/\x<18446744073709551616)(hy:0<=y/\y<18446744073709551616)(hc:0<=c/\c<18446744073709551616):0<=(x*y+c)/18446744073709551616/\(x*y+c)/18446744073709551616<18446744073709551616:=by
 have a:=aQ hx.1 hy.1
 have b:x*y<=18446744073709551615*y:=aD (by omega) hy.1
 omega
def pin{v w B m:Int}(h:v=w+B*m)(hv:0<=v/\v<B)(hw:0<=w/\w<B):v=w:=by
 have a:0<B:=by omega
 by_cases b:m <= -1
 ·have:=aG b (aL a);omega
 ·by_cases c:1<=m
  ·have:=aG c (aL a);omega
  ·obtain rfl:m=0:=by omega
   omega
section
variable {h g g1:bJ} {K:VP} {A B:Option bN} {ac bc an bn ba bb:Nat} {e:cH} {qa qb:List dZ}
set_option maxHeartbeats 1000000 in
def A6x{us bs:List Int}{u0 u1 v0 v1:Int}{odd:Bool}(wa:Win .u64 h g1 ba e A [] us qa)(wb:Win .u64 g1 g bb e B [] bs qb)(ha:an=us.length)(hb:bn=bs.length)(hab:us.length=bs.length)(da:Dig b64 us)(db:Dig b64 bs)(hl:us.length<=1000000000)(hu0:0<=u0/\u0<18446744073709551616)(hu1:0<=u1/\u1<18446744073709551616)(hv0:0<=v0/\v0<18446744073709551616)(hv1:0<=v1/\v1<18446744073709551616)
 (hX0:0<=Ix (val b64 us) (val b64 bs) u0 v0 odd/\Ix (val b64 us) (val b64 bs) u0 v0 odd<b64^us.length) (hX1:0<=Iw (val b64 us) (val b64 bs) u1 v1 odd/\Iw (val b64 us) (val b64 bs) u1 v1 odd<b64^us.length)
 (hK:∀ us' bs' h' g1',us'.length=us.length->bs'.length=us.length->Dig b64 us'->Dig b64 bs'->val b64 us'=Ix (val b64 us) (val b64 bs) u0 v0 odd->val b64 bs'=Iw (val b64 us) (val b64 bs) u1 v1 odd->Win .u64 h' g1' ba e A [] us' qa->Win .u64 g1' g bb e B [] bs' qb->K (.tuple #[]) h'):
 aY prog Yb #[.agg #[U u0,U u1,U v0,U v1,.bool odd],.slice A an ac,.slice B bn bc] h K:=by
 subst ha hb
 refine B0v _ _ _ _ _ _ _ _ _ _ _ ?_
 unfold B5p
 refine ⟨fun l hp=>∃ (k:Nat) (d b c j W S:Int) (s E:List Int) (g1:bJ),l=[U d,U b,U c,U j,U W,U S,I k]/\k<=us.length/\s.length=us.length/\E.length=us.length/\Dig b64 s/\Dig b64 E/\(0<=d/\d<18446744073709551616)/\(0<=b/\b<18446744073709551616)/\(0<=c/\c<18446744073709551616)/\(0<=j/\j<18446744073709551616)/\(0<=W/\W<=1)/\(0<=S/\S<=1)/\Win .u64 hp g1 ba e A [] s qa/\Win .u64 g1 g bb e B [] E qb/\s.drop k=us.drop k/\E.drop k=bs.drop k/\
  val b64 (s.take k)=Ix (val b64 (us.take k)) (val b64 (bs.take k)) u0 v0 odd+b64^k*((if odd then b-d else d-b)+W)/\val b64 (E.take k)=Iw (val b64 (us.take k)) (val b64 (bs.take k)) u1 v1 odd+b64^k*((if odd then j-c else c-j)+S),fun l _=>us.length-(iAt l 6).toNat,⟨0,0,0,0,0,0,0,us,bs,g1,rfl,by omega,rfl,hab.symm,da,db,by omega,by omega,by omega,by omega,by omega,by omega,wa,wb,rfl,rfl,by simp [val,Ix],by simp [val,Iw]⟩,?_⟩
 rintro d b c j W S i hp ⟨k,ai,af,ad,ah,ab,ae,s,E,g1,V,hk,a,m,Q,O,hP,hQ,hR,hT,w,z,N,R,G,L,o,C⟩
 simp only [bO,dA,and_true,true_and] at V
 obtain ⟨rfl,rfl,rfl,rfl,rfl,rfl,rfl⟩:=V
 refine B4 (fun h1=>?_) (fun h1=>?_)
 ·have gx:=L6 Q k
  have gy:=L6 O k
  have n:=E2 G
  have u:=E2 L
  have vx:=C2 b64 us k
  have X:=C2 b64 bs k
  obtain ⟨g2,aa,ag⟩:=N.swap R
  refine N.sl.load a.symm (by omega) (by omega) ?_
  refine aa.sl.load (by omega) (by omega) (by omega) ?_
  simp only [aC]
  obtain ⟨aA,Z,_⟩:=SlV.at N.sl (i:=k) (by simp;omega)
  obtain ⟨aB,hB,_⟩:=SlV.at R.sl (i:=k) (by simp;omega)
  generalize hx0:s.getD k 0=x at *
  generalize hy0:E.getD k 0=y at *
  refine O9 gx hu0 hP ⟨_,_,rfl,?_⟩
  refine O9 gy hv0 hQ ⟨_,_,rfl,?_⟩
  refine O9 gy hv1 hR ⟨_,_,rfl,?_⟩
  refine O9 gx hu1 hT ⟨_,_,rfl,?_⟩
  have bP:=Ki gx hu0 hP
  have bQ:=Ki gy hv0 hQ
  have bR:=Ki gy hv1 hR
  have bT:=Ki gx hu1 hT
  have mP:=Dw (x*u0+d)
  have mQ:=Dw (y*v0+b)
  have mR:=Dw (y*v1+c)
  have mT:=Dw (x*u1+j)
  have kP:=A13 (x*u0+d)
  have kQ:=A13 (y*v0+b)
  have kR:=A13 (y*v1+c)
  have kT:=A13 (x*u1+j)
  have ek:B5 ((k:Int)+1)=((k+1:Nat):Int):=by rw [B6 (by omega) (by omega)];omega
  rw [ek]
  generalize (x*u0+d)/18446744073709551616=cP2 at *
  generalize (y*v0+b)/18446744073709551616=cQ2 at *
  generalize (y*v1+c)/18446744073709551616=cR2 at *
  generalize (x*u1+j)/18446744073709551616=cT2 at *
  generalize (x*u0+d)%18446744073709551616=p at *
  generalize (y*v0+b)%18446744073709551616=q at *
  generalize (y*v1+c)%18446744073709551616=r at *
  generalize (x*u1+j)%18446744073709551616=t at *
  have D:b64^(k+1)=b64^k*18446744073709551616:=aZ _ _
  cases odd with
  | true=>
   refine Br.of (fun _=>?_) (fun e=>by cases e)
   refine Dr mP mQ w ⟨_,_,rfl,aA,Z,by omega,by omega,N.storeN F0 Z (by omega) ?_⟩
   intro h2 w2
   refine Dr mR mT z ⟨_,_,rfl,aB,hB,by omega,by omega,?_⟩
   obtain ⟨g3,F,H⟩:=w2.swap R
   refine F.storeN F0 hB (by omega) ?_
   intro h4 w4
   obtain ⟨g5,J,M⟩:=w4.swap H
   refine ⟨⟨k+1,_,_,_,_,_,_,_,_,g5,rfl,by omega,by simpa using a,by simpa using m,Q.set (Dw _),O.set (Dw _),bP,bQ,bR,bT,by split<;>omega,by split<;>omega,J,M,?_,?_,?_,?_⟩,by simp only [iAt,aH,aO];omega⟩
   ·rw [D3 (by omega)];exact D7 G
   ·rw [D3 (by omega)];exact D7 L
   ·rw [C6 (by omega),E5,aF,aI (by omega),D,vx,X,<- n,<- u,o,Xi mP mQ w]
    simp only [Ix,if_true]
    grind
   ·rw [C6 (by omega),E5,aF,aI (by omega),D,vx,X,<- n,<- u,C,Xi mR mT z]
    simp only [Iw,if_true]
    grind
  | false=>
   refine Br.of (fun e=>by cases e) (fun _=>?_)
   refine Dr mQ mP w ⟨_,_,rfl,aA,Z,by omega,by omega,N.storeN F0 Z (by omega) ?_⟩
   intro h2 w2
   refine Dr mT mR z ⟨_,_,rfl,aB,hB,by omega,by omega,?_⟩
   obtain ⟨g3,F,H⟩:=w2.swap R
   refine F.storeN F0 hB (by omega) ?_
   intro h4 w4
   obtain ⟨g5,J,M⟩:=w4.swap H
   refine ⟨⟨k+1,_,_,_,_,_,_,_,_,g5,rfl,by omega,by simpa using a,by simpa using m,Q.set (Dw _),O.set (Dw _),bP,bQ,bR,bT,by split<;>omega,by split<;>omega,J,M,?_,?_,?_,?_⟩,by simp only [iAt,aH,aO];omega⟩
   ·rw [D3 (by omega)];exact D7 G
   ·rw [D3 (by omega)];exact D7 L
   ·rw [C6 (by omega),E5,aF,aI (by omega),D,vx,X,<- n,<- u,o,Xi mQ mP w]
    simp only [Ix,Bool.false_eq_true,if_false]
    grind
   ·rw [C6 (by omega),E5,aF,aI (by omega),D,vx,X,<- n,<- u,C,Xi mT mR z]
    simp only [Iw,Bool.false_eq_true,if_false]
    grind
 ·obtain rfl:k=us.length:=by omega
  rw [aM (show s.length<=us.length by omega),aV,aM (show bs.length<=us.length by omega)] at o
  rw [aM (show E.length<=us.length by omega),aV,aM (show bs.length<=us.length by omega)] at C
  have bx:=I5 (by decide) Q
  have T:=I5 (by decide) O
  rw [a] at bx
  rw [m] at T
  exact hK s E hp g1 a m Q O (pin o ⟨C5 (by decide) Q,bx⟩ hX0) (pin C ⟨C5 (by decide) O,T⟩ hX1) N R
end
def Win.priv{k:cV}{h g:bJ}{b m c:Nat}{e:cH}{A:Option bN}{xs:List Int}{post:List dZ}(w:Win k h g b e A [] xs post)(hx:xs≠[])(hc:c=xs.length+post.length)(hm:m<=xs.length):Priv h g e 1 A m c ((xs.take m).map (bH k)):=by
 refine ⟨by simp;omega,by omega,.inr ⟨b,xs.map (bH k)++post,?_,w.free,?_,by simp;omega,?_⟩⟩
 ·rcases w.at_ with a|a
  ·exact absurd a hx
  ·simpa using a
 ·have:=w.eq
  rwa [cA] at this
 ·rw [eA,eS (by simp;omega),List.map_take]
def Mc{k:cV}{h g:bJ}{n c:Nat}{e:cH}{A:Option bN}{xs:List Int}(p:Priv h g e 1 A n c (xs.map (bH k)))(hx:xs≠[]):∃ b post,Win k h g b e A [] xs post/\c=xs.length+post.length:=by
 obtain ⟨m,o,i⟩:=p
 rw [dV] at m
 rcases i with ⟨r,rfl⟩|⟨b,a,j,l,rfl,q,d⟩
 ·exact absurd (aU (by omega)) hx
 ·refine ⟨b,a.drop (n*1),⟨l,?_,.inr j⟩,?_⟩
  ·rw [cA,<- d,cW]
  ·rw [aS];omega
def Priv.swap{h g1 g:bJ}{e e':cH}{s s' n c m d:Nat}{A B:Option bN}{xs ys:List dZ}(pa:Priv h g1 e s A n c xs)(pb:Priv g1 g e' s' B m d ys):∃ g2,Priv h g2 e' s' B m d ys/\Priv g2 g e s A n c xs:=by
 obtain ⟨k,q,D⟩:=pa
 obtain ⟨o,l,w⟩:=pb
 rcases D with ⟨z,rfl⟩|⟨j,b,u,a,rfl,x⟩
 ·exact ⟨g,⟨o,l,w⟩,⟨k,q,.inl ⟨z,rfl⟩⟩⟩
 ·rcases w with ⟨E,rfl⟩|⟨y,r,C,p,rfl,F⟩
  ·exact ⟨_,⟨o,l,.inl ⟨E,rfl⟩⟩,⟨k,q,.inr ⟨j,b,u,a,rfl,x⟩⟩⟩
  ·have i:j≠y:=by
    rintro rfl
    rw [C4] at a;cases a
   rw [B7 _ _ i] at a
   refine ⟨g.put j (.cells b.toArray e),⟨o,l,.inr ⟨y,r,C,?_,Heap.put_comm _ _ _ i.symm,F⟩⟩,⟨k,q,.inr ⟨j,b,u,a,rfl,x⟩⟩⟩
   rw [B7 _ _ i.symm];exact p
abbrev Pw(h g:bJ)(A:Option bN)(n c:Nat)(us:List Int):Prop:=Priv h g C0 1 A n c (us.map (bH .u64))
def GI(h:bJ)(G:Nat)(hp:bJ)(A:Option bN)(n c:Nat)(B:Option bN)(m d:Nat):Prop:=∃ (us vs:List Int) (g1 g:bJ),h.le g/\Pw hp g1 A n c us/\Pw g1 g B m d vs/\Dig b64 us/\Dig b64 vs/\Norm us/\Norm vs/\n=us.length/\m=vs.length/\val b64 vs<=val b64 us/\eK (val b64 us) (val b64 vs)=G/\us.length<=100000000
def A9n{a b:Int}(ha:0<=a)(hb:0<=b):eK b (a%b)=eK a b:=by
 obtain ⟨x,rfl⟩:=cR ha
 obtain ⟨y,rfl⟩:=cR hb
 rw [<- eR,cQ,cQ,fM x,fM y,<- Nat.gcd_rec]
section
variable {h g:bJ} {K:VP} {A B:Option bN} {ac bc:Nat}
set_option maxHeartbeats 1000000 in
def B3k{G an bn:Nat}{hp:bJ}(gl:Gtz h)(gi:GI h G hp A an ac B bn bc)(hK:∀ A' m c' h',h.le h'->m<=c'->Mw h' A' m (G:Int)->K (.slice A' m c') h'):Jk prog K A an ac B bn bc hp:=by
 unfold Jk
 refine ⟨fun l hp=>∃ (A B:Option bN) (n c m d:Nat),l=[.slice A n c,.slice B m d]/\GI h G hp A n c B m d,fun l hp=>match l with|[_,.slice B n _]=>A9a b64 hp B n|_=>0,⟨_,_,_,_,_,_,rfl,gi⟩,?_⟩
 rintro A1 V c1 B1 m1 d1 hp ⟨A,B,n,c,m,d,hl,p,k,g1,g,lg,J,T,du,dv,nu,nv,hn,W,C,a,bk⟩
 simp only [bO,cL,and_true] at hl
 obtain ⟨⟨rfl,rfl,rfl⟩,rfl,rfl,rfl⟩:=hl
 have Ma:Mw hp A1 V (val b64 p):=⟨p,hn,J.slV,du,nu,rfl⟩
 have Mb:Mw hp B1 m1 (val b64 k):=⟨k,W,SlV.mono J.le T.slV,dv,nv,rfl⟩
 have aa:=J.2.1
 have a3:=T.2.1
 have F:=C5 (by decide) du
 have a6:=C5 (by decide) dv
 have bd:m1<=V:=Mb.len_le (by decide) (cJ C (Ma.lt (by decide)))
 have L:h.le hp:=A0 lg (A0 T.le J.le)
 have a9:=Mb.len_zero (by decide)
 refine B4 (fun h1=>?_) (fun h1=>?_)
 ·refine Xk Ma Mb C (by omega) (by omega) ?_
  intro u0 u1 v0 v1 br st
  refine ⟨_,_,_,_,_,rfl,D9 (fun e=>?_) (fun e=>?_)⟩
  ·refine Y7 Ma Mb aa a3 (by omega) (by omega) (by omega) ?_
   intro A2 m2 c2 A3 m3 c3 h6 l6 q k3 M2 M3
   refine ⟨_,_,_,_,_,_,rfl,?_⟩
   have bh:m3<=m1:=M3.len_le (by decide) (by have:=aJ (val b64 p) (show 0<val b64 k by omega);have:=Mb.lt (by decide);omega)
   obtain ⟨ws,ar,aw,Q,ak,az⟩:=M3
   refine Dg aw ar (by omega) ?_
   intro A4 c4 h7 g7 l7 p7
   obtain ⟨g2,R,M⟩:=J.swap T
   obtain ⟨g8,l8,a5⟩:=R.after (A0 l6 l7)
   obtain ⟨g9,av,a4⟩:=Priv.swap p7 a5
   have bq:=aJ (val b64 p) (show 0<val b64 k by omega)
   have Mn:Mw h7 A4 ws.length (val b64 ws):=⟨ws,rfl,p7.slV,Q,ak,rfl⟩
   refine ⟨_,_,_,rfl,⟨_,_,_,_,_,_,rfl,k,ws,g9,g8,A0 lg (A0 M.le l8),av,a4,dv,Q,nv,ak,W,rfl,by omega,?_,by omega⟩,?_⟩
   ·rw [az,A9n F a6];exact a
   ·simp only [Y3 Mn,Y3 Mb]
    have:=C5 (by decide) Q
    omega
  ·obtain ⟨af,ah,Z,ao,lh⟩:=st
   have lh:=lh e
   unfold Pa
   obtain ⟨g2,R,M⟩:=J.swap T
   refine ⟨fun l hp=>∃ (B:Option bN) (m d j:Nat) (g1 g:bJ),l=[.slice B m d]/\h.le g/\Pw hp g1 B m d (k++aE j 0)/\Pw g1 g A1 V c1 p/\m=k.length+j/\m<=V,fun l _=>match l with|[.slice _ m _]=>V-m|_=>0,⟨B1,m1,d1,0,g2,g,rfl,lg,by simpa using R,M,by omega,bd⟩,?_⟩
   rintro B2 m2 d2 bl ⟨B',m',d',j,g3,g4,al,am,ae,ab,bi,be⟩
   simp only [bO,cL,and_true] at al
   obtain ⟨rfl,rfl,rfl⟩:=al
   refine B4 (fun h2=>?_) (fun h2=>?_)
   ·refine Ft O8 ae rfl rfl (by omega) (by omega) ?_
    intro A5 c5 h5 g5 l5 p5
    obtain ⟨g6,l6,au⟩:=ab.after l5
    refine ⟨⟨A5,m2+1,c5,j+1,g5,g6,rfl,A0 am l6,?_,au,by omega,by omega⟩,by simp only;omega⟩
    have p6:=p5
    rw [<- List.map_singleton (f:=bH .u64),<- dB,bF,<- List.replicate_succ'] at p6
    exact p6
   ·obtain ⟨g5,ax,a1⟩:=ae.swap ab
    have u:(k++aE j (0:Int)).length=p.length:=by simp;omega
    have i:p≠[]:=by rintro rfl;simp at hn;omega
    have X:k++aE j (0:Int)≠[]:=by intro h0;rw [h0] at u;simp at u;exact i (aU u.symm)
    obtain ⟨ba,qa,wa,bp⟩:=Mc ax i
    obtain ⟨bb,qb,wb,bo⟩:=Mc a1 X
    have ay:=lh.gcd
    have bf:=lh.ord
    have a0:=lh.le
    have bg:val b64 k<b64^p.length:=by rw [<- hn];exact cJ C (Ma.lt (by decide))
    refine A6x wa wb hn (by omega) u.symm du (dv.append (G4 (by decide) _)) (by omega) af ah Z ao (by rw [Bm];omega) (by rw [Bm];omega) ?_
    intro x o h6 g6 y z a2 ap D s O ai
    rw [Bm] at D s
    have N:x≠[]:=by rintro rfl;simp at y;exact i (aU y.symm)
    have H:o≠[]:=by rintro rfl;simp at z;exact i (aU z.symm)
    refine ⟨rfl,?_⟩
    rw [show V=x.length by omega]
    refine Cp O.sl (by omega) (by omega) ?_
    intro k1 a7 aq aj
    refine ⟨_,_,_,rfl,?_⟩
    rw [show m2=o.length by omega]
    refine Cp (SlV.mono O.le ai.sl) (by omega) (by omega) ?_
    intro q a8 ad S
    have pA:=O.priv (m:=k1) (c:=c1) N (by omega) a7
    have pB:=ai.priv (m:=q) (c:=d2) H (by omega) a8
    have e1:(x.take k1).length=k1:=by rw [aF];omega
    have e2:(o.take q).length=q:=by rw [aF];omega
    have Mn:Mw h6 B2 q (val b64 (o.take q)):=⟨o.take q,e2.symm,SlV.mono pA.le pB.slV,ap.take _,ad,rfl⟩
    refine ⟨_,_,_,rfl,⟨_,_,_,_,_,_,rfl,x.take k1,o.take q,_,_,am,pA,pB,a2.take _,ap.take _,aq,ad,e1.symm,e2.symm,?_,?_,by omega⟩,?_⟩
    ·rw [aj,S,D,s];omega
    ·rw [aj,S,D,s,ay];exact a
    ·simp only [Y3 Mn,Y3 Mb]
     rw [S,s];omega
 ·refine D9 (fun h2=>?_) (fun h2=>?_)
  ·have h0:val b64 k=0:=a9.2 (by omega)
   rw [h0,Int.gcd_zero_right] at a
   refine hK _ _ _ _ L aa ?_
   rw [<- a,Int.natAbs_of_nonneg F];exact Ma
  ·have bj:m1=1:=by omega
   obtain ⟨w,rfl⟩:∃ w,k=[w]:=by
    rcases k with _|⟨w,_|⟨w',r⟩⟩
    ·simp at W;omega
    ·exact ⟨w,rfl⟩
    ·simp at W;omega
   have hw:=dv w (by simp)
   rw [S9] at *
   obtain ⟨t,rfl⟩:∃ t:Nat,w=(t:Int):=cR hw.1
   have bm:(t:Int)<18446744073709551616:=hw.2
   have ag:0<t:=by omega
   have sb:SlI .u64 hp B1 [(t:Int)]:=SlV.mono J.le T.slV
   refine sb.load W (by omega) (by omega) ?_
   refine sb.load W (by omega) (by omega) ?_
   show aY _ _ #[_,U ((t:Nat):Int)] _ _
   refine Kc Ma ⟨ag,by omega⟩ (by omega) ⟨_,rfl,B3 _,?_⟩
   have r0:=aR (val b64 p) (b:=(t:Int)) (by omega)
   have r1:=aJ (val b64 p) (show (0:Int)<(t:Int) by omega)
   have E:=A9n F (show (0:Int)<=(t:Int) by omega)
   obtain ⟨r,hr⟩:=cR r0
   rw [hr] at r1 E ⊢
   show aY _ _ #[U ((t:Nat):Int),_] _ _
   refine A1f (gl.mono L) (by omega) (by omega) ⟨_,rfl,B3 _,?_⟩
   rw [cQ] at E
   have a0:cX t r<=t:=Nat.le_of_dvd ag (Nat.gcd_dvd_left t r)
   refine Ac (by omega) ?_
   intro A2 m2 c2 h2 l2 q M2
   rw [E,a] at M2
   exact ⟨_,_,_,rfl,l2,hK _ _ _ _ (A0 L l2) q M2⟩
def Xz{x y:Int}{an bn:Nat}(gl:Gtz h)(ma:Mw h A an x)(mb:Mw h B bn y)(ha:an<=ac)(hb:bn<=bc)(hl:an<=100000000)(hl2:bn<=100000000)(hK:∀ A' m c' h',h.le h'->m<=c'->Mw h' A' m (eK x y:Int)->K (.slice A' m c') h'):aY prog Jf #[.slice A an ac,.slice B bn bc] h K:=by
 refine A1z _ _ _ _ _ _ ?_
 unfold A20
 refine ⟨fun l r=>r=h/\∃ (A B:Option bN) (n c m d:Nat) (g a:Int),l=[.slice A n c,.slice B m d]/\Mw h A n g/\Mw h B m a/\a<=g/\n<=c/\m<=d/\n<=100000000/\m<=100000000/\eK g a=eK x y,?_,?_⟩
 ·refine G8 ma mb (by omega) ⟨_,rfl,B4 (fun b=>?_) (fun b=>?_)⟩
  ·rw [Cc] at b
   exact ⟨rfl,_,_,_,_,_,_,_,_,rfl,mb,ma,by omega,hb,ha,hl2,hl,Int.gcd_comm _ _⟩
  ·rw [Cc] at b
   exact ⟨rfl,_,_,_,_,_,_,_,_,rfl,ma,mb,by omega,ha,hb,hl,hl2,rfl⟩
 ·rintro A1 Z c1 B1 S d1 r ⟨rfl,A2,B2,n,c,m,d,g,a,e,M1,M2,i,O,k2,l1,T,k⟩
  simp only [bO,cL,and_true] at e
  obtain ⟨⟨rfl,rfl,rfl⟩,rfl,rfl,rfl⟩:=e
  have j:=M1.nonneg (by decide)
  refine D9 (fun b=>?_) (fun b=>?_)
  ·have:a=0:=(M2.len_zero (by decide)).2 (by omega)
   subst this
   rw [Int.gcd_zero_right] at k
   refine hK _ _ _ _ (B3 _) O ?_
   rw [<- k,Int.natAbs_of_nonneg j];exact M1
  ·obtain ⟨J,p,N,F,w,rfl⟩:=M1
   obtain ⟨E,o,C,D,nv,rfl⟩:=M2
   refine Dg N p (by omega) ?_
   intro A3 V h3 W s q
   refine ⟨_,_,_,rfl,?_⟩
   refine Dg (SlV.mono (A0 s q.le) C) o (by omega) ?_
   intro A4 X h4 g4 G u
   refine ⟨_,_,_,rfl,?_⟩
   obtain ⟨M,L,R⟩:=q.after G
   obtain ⟨z,H,Q⟩:=Priv.swap u R
   exact B3k gl ⟨J,E,z,M,A0 s L,H,Q,F,D,w,nv,rfl,rfl,i,k,by omega⟩ hK
end
structure ZI (h:bJ) (s:Bool) (A:Option bN) (n c:Nat) (z:Int):Prop where
 cap:n<=c
 mag:Mw h A n (z.natAbs:Int)
 sgn:s=decide (z<0)
def ZI.mono{h h':bJ}{s:Bool}{A:Option bN}{n c:Nat}{z:Int}(i:ZI h s A n c z)(l:h.le h'):ZI h' s A n c z:=⟨i.cap,i.mag.mono l,i.sgn⟩
def ZI.zero{h:bJ}{A:Option bN}:ZI h false A 0 0 0:=⟨bD _,Mag.zero,rfl⟩
def ZI.len{h:bJ}{s:Bool}{A:Option bN}{n c m:Nat}{z:Int}(i:ZI h s A n c z)(hz:ZB m z)(hm:m<=6400000000):n<=100000000:=by
 obtain ⟨k,hk⟩:∃ k,k=100000000:=⟨_,rfl⟩
 rw [<- hk]
 refine i.mag.len_le (by decide) ?_
 rw [Fw]
 have b:(z.natAbs:Int)<2^m:=by
  have:((z.natAbs:Nat):Int)<((2^m:Nat):Int):=Int.ofNat_lt.2 hz
  simpa using this
 have a:=D5 (B:=2) (by decide) (show m<=64*k by omega)
 exact Int.lt_of_lt_of_le b a
def ZI.zeroIff{h:bJ}{s:Bool}{A:Option bN}{n c:Nat}{z:Int}(i:ZI h s A n c z):z=0↔n=0:=by
 have:=i.mag.len_zero (by decide)
 omega
section
variable {h g:bJ} {K:VP} {A B:Option bN} {s s':Bool} {an ac bn bc m:Nat} {x y:Int}
def K9{v:Nat}{n c:Nat}{neg:Bool}(M:Mw h A n (v:Int))(hc:n<=c)(hK:∀ s,ZI h s A n c (if neg then -(v:Int) else v)->K (.agg #[.bool s,.slice A n c]) h):aY prog N3 #[.bool neg,.slice A n c] h K:=by
 have a:=M.len_zero (by decide)
 refine A74 _ _ _ _ ?_
 unfold B0r
 cases neg with
 | true=>
  refine Br.of (fun _=>hK _ ⟨hc,?_,?_⟩) (fun e=>by cases e)
  ·simpa using M
  ·simp only [if_true,decide_eq_decide];omega
 | false=>
  refine Br.of (fun e=>by cases e) (fun _=>hK _ ⟨hc,?_,?_⟩)
  ·simpa using M
  ·simp
def Co(i:ZI h s A an ac x)(hK:∀ s',ZI h s' A an ac (-x)->K (.agg #[.bool s',.slice A an ac]) h):aY prog On #[.agg #[.bool s,.slice A an ac]] h K:=by
 refine B7t _ _ _ _ ?_
 unfold C32
 refine K9 (neg:= !s) i.mag i.cap ?_
 intro c b
 have e:(if (!s)=true then -(x.natAbs:Int) else x.natAbs)= -x:=by
  have:=i.sgn
  by_cases a:x<0
  ·simp only [a,decide_true] at this;subst this;simp;omega
  ·simp only [a,decide_false] at this;subst this;simp;omega
 rw [e] at b
 exact ⟨_,_,_,_,rfl,hK _ b⟩
def Fj(i:ZI h s A an ac x)(j:ZI h s' B bn bc y)(hx:ZB m x)(hy:ZB m y)(hm:m<=6400000000)(hK:∀ s1 A' n' c' h',h.le h'->ZI h' s1 A' n' c' (x+y)->K (.agg #[.bool s1,.slice A' n' c']) h'):aY prog Rq #[.agg #[.bool s,.slice A an ac],.agg #[.bool s',.slice B bn bc]] h K:=by
 have r:=i.len hx hm
 have q:=j.len hy hm
 have g:=i.sgn
 have a:=j.sgn
 refine B7w _ _ _ _ _ _ _ _ ?_
 unfold C35
 refine Br.of (fun e=>?_) (fun e=>?_)
 ·have e:s=s':=by simpa using e
  subst e
  refine O4 i.mag j.mag i.cap j.cap (by omega) (by omega) ?_
  intro A1 p c1 b c n M1
  refine ⟨_,_,_,rfl,c,?_⟩
  rw [<- eV] at M1
  refine K9 (neg:=s) M1 n ?_
  intro s1 d
  refine ⟨_,_,_,_,rfl,B3 _,hK _ _ _ _ _ c ?_⟩
  have k:(if s=true then -((x.natAbs+y.natAbs:Nat):Int) else ((x.natAbs+y.natAbs:Nat):Int))=x+y:=by
   cases s with
   | true=>have b:=of_decide_eq_true g.symm;have l:=of_decide_eq_true a.symm;simp;omega
   | false=>have b:=of_decide_eq_false g.symm;have l:=of_decide_eq_false a.symm;simp;omega
  rw [k] at d
  exact d
 ·have e:s≠s':=by simpa using e
  refine G8 i.mag j.mag (by omega) ⟨_,rfl,B4 (fun b=>?_) (fun b=>?_)⟩
  ·have o:¬ (x.natAbs:Int)<y.natAbs:=by rw [<- Cc];omega
   refine G0 i.mag j.mag i.cap (by omega) (by omega) ?_
   intro A1 p c1 b c n M1
   refine ⟨_,_,_,rfl,c,?_⟩
   rw [show (x.natAbs:Int)-y.natAbs=((x.natAbs-y.natAbs:Nat):Int) by omega] at M1
   refine K9 (neg:=s) M1 n ?_
   intro s1 d
   refine ⟨_,_,_,_,rfl,B3 _,hK _ _ _ _ _ c ?_⟩
   have k:(if s=true then -((x.natAbs-y.natAbs:Nat):Int) else ((x.natAbs-y.natAbs:Nat):Int))=x+y:=by
    cases s with
    | true=>cases s' with
     | true=>exact absurd rfl e
     | false=>have b:=of_decide_eq_true g.symm;have l:=of_decide_eq_false a.symm;rw [iP rfl];omega
    | false=>cases s' with
     | true=>have b:=of_decide_eq_false g.symm;have l:=of_decide_eq_true a.symm;rw [iN (by simp)];omega
     | false=>exact absurd rfl e
   rw [k] at d
   exact d
  ·have o:(x.natAbs:Int)<y.natAbs:=by rw [<- Cc];omega
   refine G0 j.mag i.mag j.cap (by omega) (by omega) ?_
   intro A1 p c1 b c n M1
   refine ⟨_,_,_,rfl,c,?_⟩
   rw [show (y.natAbs:Int)-x.natAbs=((y.natAbs-x.natAbs:Nat):Int) by omega] at M1
   refine K9 (neg:=s') M1 n ?_
   intro s1 d
   refine ⟨_,_,_,_,rfl,B3 _,hK _ _ _ _ _ c ?_⟩
   have k:(if s'=true then -((y.natAbs-x.natAbs:Nat):Int) else ((y.natAbs-x.natAbs:Nat):Int))=x+y:=by
    cases s with
    | true=>cases s' with
     | true=>exact absurd rfl e
     | false=>have b:=of_decide_eq_true g.symm;have l:=of_decide_eq_false a.symm;rw [iN (by simp)];omega
    | false=>cases s' with
     | true=>have b:=of_decide_eq_false g.symm;have l:=of_decide_eq_true a.symm;rw [iP rfl];omega
     | false=>exact absurd rfl e
   rw [k] at d
   exact d
def A81(i:ZI h s A an ac x)(j:ZI h s' B bn bc y)(hx:ZB m x)(hy:ZB m y)(hm:m<=6400000000)(hK:∀ s1 A' n' c' h',h.le h'->ZI h' s1 A' n' c' (x-y)->K (.agg #[.bool s1,.slice A' n' c']) h'):aY prog A9q #[.agg #[.bool s,.slice A an ac],.agg #[.bool s',.slice B bn bc]] h K:=by
 refine B7q _ _ _ _ _ _ _ _ ?_
 unfold C2z
 refine Co j ?_
 intro s1 b
 refine ⟨_,_,_,_,rfl,B3 _,Fj i b hx hy.neg hm ?_⟩
 intro e A2 g c2 d a c
 exact ⟨_,_,_,_,rfl,a,hK _ _ _ _ _ a (by rw [Int.sub_eq_add_neg];exact c)⟩
def L9(i:ZI h s A an ac x)(j:ZI h s' B bn bc y)(hx:ZB m x)(hy:ZB m y)(hm:m<=6400000000)(hK:∀ s1 A' n' c' h',h.le h'->ZI h' s1 A' n' c' (x*y)->K (.agg #[.bool s1,.slice A' n' c']) h'):aY prog Da #[.agg #[.bool s,.slice A an ac],.agg #[.bool s',.slice B bn bc]] h K:=by
 have n:=i.len hx hm
 have k:=j.len hy hm
 have b:=i.sgn
 have a:=j.sgn
 refine B7u _ _ _ _ _ _ _ _ ?_
 unfold C33
 refine G1 i.mag j.mag i.cap j.cap (by omega) (by omega) ?_
 intro A1 l c1 o c g M1
 refine ⟨_,_,_,rfl,c,?_⟩
 rw [<- bU] at M1
 refine K9 (neg:= !(s==s')) M1 g ?_
 intro s1 d
 refine ⟨_,_,_,_,rfl,B3 _,hK _ _ _ _ _ c ?_⟩
 have e:(if (!(s==s'))=true then -((x.natAbs*y.natAbs:Nat):Int) else ((x.natAbs*y.natAbs:Nat):Int))=x*y:=by
  rw [bU]
  cases s with
  | true=>cases s' with
   | true=>rw [show (x.natAbs:Int)= -x by have:=of_decide_eq_true b.symm;omega,show (y.natAbs:Int)= -y by have:=of_decide_eq_true a.symm;omega];show -x * -y=x*y;exact Int.neg_mul_neg x y
   | false=>rw [show (x.natAbs:Int)= -x by have:=of_decide_eq_true b.symm;omega,show (y.natAbs:Int)=y by have:=of_decide_eq_false a.symm;omega];show -(-x*y)=x*y;rw [Int.neg_mul,Int.neg_neg]
  | false=>cases s' with
   | true=>rw [show (x.natAbs:Int)=x by have:=of_decide_eq_false b.symm;omega,show (y.natAbs:Int)= -y by have:=of_decide_eq_true a.symm;omega];show -(x * -y)=x*y;rw [Int.mul_neg,Int.neg_neg]
   | false=>rw [show (x.natAbs:Int)=x by have:=of_decide_eq_false b.symm;omega,show (y.natAbs:Int)=y by have:=of_decide_eq_false a.symm;omega];rfl
 rw [e] at d
 exact d
def Fg(gl:Gtz h)(i:ZI h s A an ac x)(j:ZI h s' B bn bc y)(hx:ZB m x)(hy:ZB m y)(hm:m<=6400000000)(hK:∀ A' n' c' h',h.le h'->ZI h' false A' n' c' (eK x y:Int)->K (.agg #[.bool false,.slice A' n' c']) h'):aY prog Rp #[.agg #[.bool s,.slice A an ac],.agg #[.bool s',.slice B bn bc]] h K:=by
 have d:=i.len hx hm
 have b:=j.len hy hm
 refine B7v _ _ _ _ _ _ _ _ ?_
 unfold C34
 refine Xz gl i.mag j.mag i.cap j.cap d b ?_
 intro A1 e c1 g a c M1
 refine ⟨_,_,_,rfl,hK _ _ _ _ a ⟨c,?_,?_⟩⟩
 ·rw [cQ] at M1
  rw [Int.natAbs_natCast]
  exact M1
 ·simp
def Hb(i:ZI h s A an ac x)(hK:K (I (Int.sign x)) h):aY prog Ng #[.agg #[.bool s,.slice A an ac]] h K:=by
 have c:=i.zeroIff
 have b:=i.sgn
 refine B48 _ _ _ _ ?_
 unfold C00
 refine D9 (fun e=>?_) (fun e=>?_)
 ·obtain rfl:x=0:=by omega
  simpa using hK
 ·refine Br.of (fun a=>?_) (fun a=>?_)
  ·subst a
   have:=of_decide_eq_true b.symm
   rw [dF this] at hK;exact hK
  ·subst a
   have:=of_decide_eq_false b.symm
   rw [dR (by omega)] at hK;exact hK
def Jo(i:ZI h s A an ac x)(j:ZI h s' B bn bc y)(hx:ZB m x)(hy:ZB m y)(hm:m<=6400000000)(hK:K (I (Cj x y)) h):aY prog Hq #[.agg #[.bool s,.slice A an ac],.agg #[.bool s',.slice B bn bc]] h K:=by
 have k:=i.len hx hm
 have g:=j.len hy hm
 have d:=i.sgn
 have a:=j.sgn
 refine A47 _ _ _ _ _ _ _ _ ?_
 unfold A5q
 have c1:x<0->y<0->Cj (y.natAbs:Int) x.natAbs=Cj x y:=fun c b=>by unfold Cj;split<;>split<;>first|rfl|omega|(split<;>split<;>first|rfl|omega)|(split<;>first|rfl|omega)
 have c2:¬ x<0->¬ y<0->Cj (x.natAbs:Int) y.natAbs=Cj x y:=fun c b=>by rw [show (x.natAbs:Int)=x by omega,show (y.natAbs:Int)=y by omega]
 cases s with
 | true=>
  have c:=of_decide_eq_true d.symm
  refine Br.of (fun _=>?_) (fun e=>by cases e)
  cases s' with
  | true=>
   have b:=of_decide_eq_true a.symm
   refine Br.of (fun _=>?_) (fun e=>by cases e)
   exact G8 j.mag i.mag (by omega) ⟨_,rfl,by rw [c1 c b];exact hK⟩
  | false=>
   have b:=of_decide_eq_false a.symm
   refine Br.of (fun e=>by cases e) (fun _=>Br.of (fun _=>?_) (fun e=>by cases e))
   have:Cj x y= -1:=by unfold Cj;rw [iP (by omega)]
   rw [this] at hK;exact hK
 | false=>
  have c:=of_decide_eq_false d.symm
  refine Br.of (fun e=>by cases e) (fun _=>Br.of (fun e=>by cases e) (fun _=>?_))
  cases s' with
  | true=>
   have b:=of_decide_eq_true a.symm
   refine Br.of (fun _=>?_) (fun e=>by cases e)
   have:Cj x y=1:=by unfold Cj;rw [iN (by omega),iP (by omega)]
   rw [this] at hK;exact hK
  | false=>
   have b:=of_decide_eq_false a.symm
   refine Br.of (fun e=>by cases e) (fun _=>?_)
   exact G8 i.mag j.mag (by omega) ⟨_,rfl,by rw [c2 c b];exact hK⟩
end
section
variable {h g:bJ} {K:VP} {A B:Option bN} {s s':Bool} {an ac bn bc m:Nat} {x y:Int}
def Fp(hs:s=decide (x<0)):(s=true/\x= -(x.natAbs:Int))\/(s=false/\x=(x.natAbs:Int)):=by
 by_cases h:x<0
 ·left;exact ⟨by rw [hs];simpa using h,by omega⟩
 ·right;exact ⟨by rw [hs];simpa using h,by omega⟩
def B2x(a b:Nat):(a:Int).tdiv b=((a/b:Nat):Int)/\(-(a:Int)).tdiv (-(b:Int))=((a/b:Nat):Int)/\(-(a:Int)).tdiv b= -((a/b:Nat):Int)/\(a:Int).tdiv (-(b:Int))= -((a/b:Nat):Int):=by
 refine ⟨(cT a b).symm,?_,?_,?_⟩
 ·rw [Int.neg_tdiv,Int.tdiv_neg,Int.neg_neg,cT]
 ·rw [Int.neg_tdiv,cT]
 ·rw [Int.tdiv_neg,cT]
def A4t(a b:Nat):(a:Int).tmod b=((a%b:Nat):Int)/\(-(a:Int)).tmod (-(b:Int))= -((a%b:Nat):Int)/\(-(a:Int)).tmod b= -((a%b:Nat):Int)/\(a:Int).tmod (-(b:Int))=((a%b:Nat):Int):=by
 refine ⟨(eB a b).symm,?_,?_,?_⟩
 ·rw [Int.neg_tmod,Int.tmod_neg,eB]
 ·rw [Int.neg_tmod,eB]
 ·rw [Int.tmod_neg,eB]
def Oa(i:ZI h s A an ac x)(j:ZI h s' B bn bc y)(hx:ZB m x)(hy:ZB m y)(hm:m<=6400000000)(hy0:y≠0)(hK:∀ s1 A1 n1 c1 s2 A2 n2 c2 h',h.le h'->ZI h' s1 A1 n1 c1 (x.tdiv y)->ZI h' s2 A2 n2 c2 (x.tmod y)->K (.tuple #[.agg #[.bool s1,.slice A1 n1 c1],.agg #[.bool s2,.slice A2 n2 c2]]) h'):aY prog Ko #[.agg #[.bool s,.slice A an ac],.agg #[.bool s',.slice B bn bc]] h K:=by
 have r:=i.len hx hm
 have o:=j.len hy hm
 have n:=j.zeroIff
 have b:=Fp i.sgn
 have a:=Fp j.sgn
 refine A71 _ _ _ _ _ _ _ _ ?_
 unfold B0m
 refine D9 (fun e=>by omega) (fun _=>?_)
 refine Y7 i.mag j.mag i.cap j.cap (by omega) (by omega) (by omega) ?_
 intro A1 q c1 A2 p c2 u g k l M1 M2
 refine ⟨_,_,_,_,_,_,rfl,?_⟩
 rw [<- dN] at M1
 rw [<- eR] at M2
 refine K9 (neg:= !(s==s')) M1 k ?_
 intro s1 c
 refine ⟨_,_,_,_,rfl,B3 _,?_⟩
 refine K9 (neg:=s) M2 l ?_
 intro s2 d
 refine ⟨_,_,_,_,rfl,B3 _,hK _ _ _ _ _ _ _ _ _ g ?_ ?_⟩
 ·have e:(if (!(s==s'))=true then -((x.natAbs/y.natAbs:Nat):Int) else ((x.natAbs/y.natAbs:Nat):Int))=x.tdiv y:=by
   have t:=B2x x.natAbs y.natAbs
   rcases b with ⟨rfl,hx'⟩|⟨rfl,hx'⟩<;>rcases a with ⟨rfl,hy'⟩|⟨rfl,hy'⟩<;>rw [<- hx',<- hy'] at t
   ·exact t.2.1.symm
   ·exact t.2.2.1.symm
   ·exact t.2.2.2.symm
   ·exact t.1.symm
  rw [e] at c;exact c
 ·have e:(if s=true then -((x.natAbs%y.natAbs:Nat):Int) else ((x.natAbs%y.natAbs:Nat):Int))=x.tmod y:=by
   have t:=A4t x.natAbs y.natAbs
   rcases b with ⟨rfl,hx'⟩|⟨rfl,hx'⟩<;>rcases a with ⟨rfl,hy'⟩|⟨rfl,hy'⟩<;>rw [<- hx',<- hy'] at t
   ·exact t.2.1.symm
   ·exact t.2.2.1.symm
   ·exact t.2.2.2.symm
   ·exact t.1.symm
  rw [e] at d;exact d
def V9(i:ZI h s A an ac x)(hK:K (.bool (decide (x=0))) h):aY prog G2 #[.agg #[.bool s,.slice A an ac]] h K:=by
 have b:=i.zeroIff
 refine A72 _ _ _ _ ?_
 unfold B0n
 have:((an:Int)==0)=decide (x=0):=by
  by_cases a:x=0
  ·simp [a,b.1 a]
  ·have:¬ an=0:=fun e=>a (b.2 e)
   simp [a,this]
 rw [this];exact hK
def S8(i:ZI h s A an ac x)(hK:K (.bool (decide (x=1))) h):aY prog Bt #[.agg #[.bool s,.slice A an ac]] h K:=by
 have k:=Fp i.sgn
 have g:=i.zeroIff
 have M:=i.mag
 refine B0o _ _ _ _ ?_
 unfold B5l
 rcases k with ⟨rfl,m⟩|⟨rfl,m⟩
 ·refine Br.of (fun e=>by cases e) (fun _=>?_)
  rw [show decide (x=1)=false by simp;omega] at hK;exact hK
 ·refine Br.of (fun _=>?_) (fun e=>by cases e)
  obtain ⟨d,a,l,q,p,b⟩:=M
  refine D9 (fun e=>?_) (fun e=>?_)
  ·obtain ⟨w,rfl⟩:∃ w,d=[w]:=by
    rcases d with _|⟨w,_|⟨n,r⟩⟩
    ·simp at a;omega
    ·exact ⟨w,rfl⟩
    ·simp at a;omega
   refine l.load a (by omega) (by omega) ?_
   rw [S9] at b
   show K (.bool (w==1)) h
   have:(w==1)=decide (x=1):=by
    by_cases c:x=1
    ·have:w=1:=by omega
     simp [c,this]
    ·have:¬ w=1:=by omega
     simp [c,this]
   rw [this];exact hK
  ·have:¬ x=1:=by
    rintro rfl
    have c:=i.mag.len_le (j:=1) (by decide) (by decide)
    have o:¬ an=0:=fun e=>by have:=g.2 e;omega
    omega
   rw [show decide (x=1)=false by simp [this]] at hK;exact hK
def Cn(i:ZI h s A an ac x)(j:ZI h s' B bn bc y)(hx:ZB m x)(hy:ZB m y)(hm:m<=6400000000)(hy0:y≠0)(hK:∀ s1 A1 n1 c1 h',h.le h'->ZI h' s1 A1 n1 c1 (x.tdiv y)->K (.agg #[.bool s1,.slice A1 n1 c1]) h'):aY prog Om #[.agg #[.bool s,.slice A an ac],.agg #[.bool s',.slice B bn bc]] h K:=by
 refine B7r _ _ _ _ _ _ _ _ ?_
 unfold C30
 refine S8 j ⟨_,rfl,B4 (fun e=>?_) (fun e=>?_)⟩
 ·subst e
  exact hK _ _ _ _ _ (B3 _) (by rw [Int.tdiv_one];exact i)
 ·refine Oa i j hx hy hm hy0 ?_
  intro s1 A1 n1 c1 c A2 d c2 k a b g
  exact ⟨_,_,_,_,_,_,_,_,rfl,hK _ _ _ _ _ a b⟩
def Zy{n:Int}(h1: -9223372036854775808<=n)(h2:n<=9223372036854775807)(hK:∀ s1 A1 n1 c1 h',h.le h'->ZI h' s1 A1 n1 c1 n->K (.agg #[.bool s1,.slice A1 n1 c1]) h'):aY prog A59 #[I n] h K:=by
 refine B7x _ ?_
 unfold C36
 refine B4 (fun a=>?_) (fun a=>?_)
 ·have e:B8 (0-B8 n)=(n.natAbs:Int):=by rw [D8,D8];omega
  rw [e]
  refine Ac (by omega) ?_
  intro A1 d c1 h1 c b M1
  exact ⟨_,_,_,rfl,hK _ _ _ _ _ c ⟨b,M1,by simpa using a⟩⟩
 ·have e:B8 n=(n.natAbs:Int):=by rw [D8];omega
  rw [e]
  refine Ac (by omega) ?_
  intro A1 d c1 h1 c b M1
  exact ⟨_,_,_,rfl,hK _ _ _ _ _ c ⟨b,M1,by simpa using a⟩⟩
end
def A66{P:dD}{t d e:cH}(ht:P.underlying t=some .string)(hd:P.underlying d=some (.slice e))(he:P.underlying e=some (.int .u8)){h:bJ}{l:List UInt8}{K:VP}
 (x:∀ A c h',h.le h'->l.length<=c->SlV h' A (yv l)->K (.slice A l.length c) h'):wpH P (convert t d (.string (bs l))) K h:=by
 unfold convert
 simp only [C3,E3 ht,E3 hd,E3 he]
 unfold Conv.stringToBytes
 simp only [C3]
 refine Hf rfl (fun p=>?_)
 have a:(bs l).size=l.length:=by simp [bs,ByteArray.size]
 have g:l.length<=(Question.appendCap (bs l).size 0 e).cut p:=by
  rw [a];simp only [Question.cut];omega
 generalize (Question.appendCap (bs l).size 0 e).cut p=cap at *
 rw [N9]
 intro b s
 generalize hcs:((bs l).data.map (fun b=>bH .u8 b.toNat)++Array.replicate (cap-(bs l).size) (bH .u8 0))=cs
 have n:h.le (h.put b (.cells cs e (cs.size,cs.size+1))):=Heap.le_put _ s
 have m:(h.put b (.cells cs e)).freeze { block:=b,off:=cs.size } 1=h.put b (.cells cs e (cs.size,cs.size+1)):=by
  unfold Heap.freeze
  rw [iN (by decide)]
  funext k
  by_cases j:k=b
  ·subst j
   simp only [if_true,C4,Option.map_some]
   rfl
  ·rw [iN j,B7 _ _ j,B7 _ _ j]
 refine ⟨cs,e,_,C4 _ _ _,?_⟩
 refine ⟨⟨_,C4 _ _ _⟩,?_⟩
 show K (.slice (some ⟨b,0,none⟩) (bs l).size cap) ((h.put b (.cells cs e)).freeze { block:=b,off:=cs.size } 1)
 rw [m,a]
 refine x _ _ _ n g (.inr ⟨_,rfl,?_⟩)
 intro i v o
 have r:i<l.length:=by
  have:=(List.getElem?_eq_some_iff.1 o).1
  simpa [yv] using this
 have q:eC ⟨b,0,none⟩ i=⟨b,i,none⟩:=by rw [I0,fJ]
 rw [q,G3,<- hcs,Array.getElem?_append_left (by simp [bs];exact r)]
 rw [<- o]
 simp [yv,bs]
def A3q{x y:Int}(hy:0<y):(x.tmod y<0->x/y=x.tdiv y-1)/\(0<=x.tmod y->x/y=x.tdiv y):=by
 have d:=Int.mul_tdiv_add_tmod x y
 have e: -y<x.tmod y/\x.tmod y<y:=by
  have b:=eF x.natAbs (show 0<y.natAbs by omega)
  have t:=A4t x.natAbs y.natAbs
  rw [show ((y.natAbs:Nat):Int)=y by omega] at t
  by_cases c:x<0
  ·rw [show -((x.natAbs:Nat):Int)=x by omega] at t
   have:=t.2.2.1
   omega
  ·rw [show ((x.natAbs:Nat):Int)=x by omega] at t
   have:=t.1
   omega
 refine ⟨fun h=>?_,fun h=>?_⟩
 ·refine (Yu (a:=x.tmod y+y) ?_ (by omega) (by omega)).1
  rw [Int.mul_sub];omega
 ·exact (Yu (a:=x.tmod y) (by omega) h (by omega)).1
def ZB.tdiv{m:Nat}{x y:Int}(h:ZB m x):ZB m (x.tdiv y):=by
 unfold ZB at *
 rw [Int.natAbs_tdiv]
 exact Nat.lt_of_le_of_lt (eU _ _) h
section
variable {h g:bJ} {K:VP} {A B:Option bN} {s s':Bool} {an ac bn bc m:Nat} {x y:Int}
def Ty(i:ZI h s A an ac x)(j:ZI h s' B bn bc y)(hx:ZB m x)(hy:ZB m y)(hm:m+1<=6400000000)(hy0:0<y)(hK:∀ s1 A1 n1 c1 h',h.le h'->ZI h' s1 A1 n1 c1 (x/y)->K (.agg #[.bool s1,.slice A1 n1 c1]) h'):aY prog Jc #[.agg #[.bool s,.slice A an ac],.agg #[.bool s',.slice B bn bc]] h K:=by
 have l:=A3q (x:=x) hy0
 refine A1t _ _ _ _ _ _ _ _ ?_
 unfold A1u
 refine Oa i j hx hy (by omega) (by omega) ?_
 intro s1 A1 n1 c1 H A2 z c2 C g c q
 refine ⟨_,_,_,_,_,_,_,_,rfl,?_⟩
 refine Hb q ⟨_,rfl,B3 _,?_⟩
 refine Hb (j.mono g) ⟨_,rfl,B3 _,?_⟩
 rw [dR hy0,Int.mul_one]
 have r: -1<=Int.sign (x.tmod y)/\Int.sign (x.tmod y)<=1:=by
  rcases Int.lt_trichotomy (x.tmod y) 0 with h|h|h
  ·rw [dF h];omega
  ·rw [h];decide
  ·rw [dR h];omega
 rw [B6 (by omega) (by omega)]
 refine B4 (fun e=>?_) (fun e=>?_)
 ·have a:x.tmod y<0:=Int.sign_neg_iff.1 e
  refine Zy (by omega) (by omega) ?_
  intro F A3 G w L d p
  refine ⟨_,_,_,_,rfl,d,?_⟩
  refine A81 (m:=m+1) (c.mono d) p (hx.tdiv.mono (by omega)) ?_ hm ?_
  ·unfold ZB
   have:1<=2^m:=Nat.one_le_two_pow
   rw [Nat.pow_succ];simp;omega
  ·intro u A4 E D J n k
   rw [<- l.1 a] at k
   exact ⟨_,_,_,_,rfl,n,hK _ _ _ _ _ (A0 g (A0 d n)) k⟩
 ·have b:0<=x.tmod y:=by
   by_cases o:x.tmod y<0
   ·exact absurd (by rw [dF o];decide) e
   ·omega
  rw [<- l.2 b] at c
  exact hK _ _ _ _ _ g c
end
