/- A part. -/
import Derived.Test.YtbgkfnjmcjfokaaGreatDoorG16
import Derived.Test.YtbgkfnjmcjfokaaGreatDoorG17
import Derived.Test.YtbgkfnjmcjfokaaGreatDoorG10
open Go.Proofs.Tryz
set_option linter.all false
open _root_.Go.Addr renaming add->eS
open _root_.Go.Builtin renaming copy_->dU
open _root_.ByteArray renaming size->eR
open _root_.Go.Extern.MathBitsCarry renaming m64->aU,pair->fO
open _root_.Go.Instr renaming storeAt->dT
open Int renaming toNat_natCast->aC,mul_le_mul_of_nonneg_right->aE,mul_le_mul_of_nonneg_left->aH,emod_lt_of_pos->aL,mul_ediv_add_emod->aO,le_of_lt->aQ,mul_nonneg->aR,emod_nonneg->aT,mul_comm->aV,pow_add->aW,tdiv_eq_ediv_of_nonneg->bC,pow_succ->bF,ediv_lt_of_lt_mul->bG,mul_lt_mul_of_pos_right->bK,ediv_eq_zero_of_lt->bL,pow_pos->bO,ediv_nonneg->bX,mul_lt_mul_of_pos_left->bY,natCast_mul->cF,lt_of_le_of_lt->cL,tmod_eq_emod_of_nonneg->cO,zero_add->cQ,gcd_natCast_natCast->cU,eq_ofNat_of_zero_le->cV,mul_assoc->dE,mul_add->dG,tdiv->dJ,sign_eq_neg_one_of_neg->dK,mul_le_mul->dM,fdiv->dN,ediv_le_self->dV,ediv_ediv_of_nonneg->dX,zero_mul->dY,sign_eq_one_of_pos->dZ,mul_zero->eC,add_zero->eD,add_mul_ediv_right->eE,natCast_add->eJ,add_mul_ediv_left->eM,tmod->eP,ofNat_tmod->eQ,mul_ediv_cancel->eU,gcd->eX,emod_eq_of_lt->eZ,add_comm->fA,add_mul_emod_self_right->fK,zero_emod->fP,pow_zero->gC
open List renaming replicate->aF,getElem?_cons_zero->aI,length_take->aK,take_of_length_le->aN,getElem?_cons_succ->aP,length_append->aX,drop_of_length_le->aZ,eq_nil_of_length_eq_zero->bH,drop_replicate->bN,take_length->bZ,length_drop->cC,append_nil->cD,length_replicate->cI,append_assoc->cJ,nil_append->cM,take_replicate->cT,drop_drop->cX,replicate_append_replicate->cY,take_append_drop->dB,drop_append_of_le_length->dF,take_left'->dH,map_append->eG,length_set->eI,getElem?_eq_none->eK,getD->fD,drop_append->fE,length_map->fI,drop_left'->fJ,drop_zero->fM,drop_eq_getElem_cons->fN
open List.cons renaming injEq->cN
open Nat renaming min_eq_left->aJ,le_refl->bI,sub_zero->cH,gcd->dD,pow_pos->dO,one_mul->dP,add_mul->dR,div_add_mod->eF,mul_assoc->eV,min_eq_right->fC,mul_one->fF,div_le_self->fH,mod_lt->fL,mul_div_cancel_left->fQ,add_sub_cancel_left->fR,zero_mul->fS,zero_add->fT,pow_succ->fU,mul_comm->fV,le_mul_of_pos_left->fW,gcd_sub_self_right->fX,gcd_comm->fY,add_zero->fZ
open Nat.Coprime renaming gcd_mul_left_cancel_right->cP
open _root_.Go.Value renaming int->bM
open _root_.Go.Value.int renaming injEq->fG
open _root_.Go.Value.slice renaming injEq->cW
open _root_.Go renaming Addr->bU,TypeId->cK,IntKind->cZ,Program->dI,Value->eO
open _root_.Go.Proofs.YtbgkfnjmcjfokaaGreatDoor renaming FCall->aY,Heap->bJ,Norm->fB
namespace Go.Proofs.YtbgkfnjmcjfokaaGreatDoor
set_option maxRecDepth 20000
open Go
def Dm:prog.underlying 5=some (.int .u8):=by kernel_rfl
def Z1:prog.underlying 9=some .string:=by kernel_rfl
def pv:List Nat->Nat
 | []=>0
 | d::r=>d+1000000000*pv r
def pw(e:Nat):Nat:=if e=0 then 0 else 10^(e-1)
section
variable {h h':bJ} {K:VP} {A B:Option bU} {n c n' c':Nat} {s s':Bool} {x y z:Int} {m:Nat} {p q:Rat} {a b w:QV}
end
def A3u{l:List UInt8}(h:∀ c∈l,L9 c):S6 l<2^(4*l.length):=by
 have a:=Kg h
 have b:10^l.length<=16^l.length:=Nat.pow_le_pow_left dc _
 have d:16^l.length=2^(4*l.length):=by rw [Nat.pow_mul]
 omega
section
variable {h h':bJ} {K:VP} {A B:Option bU} {n c n' c':Nat} {s s':Bool} {x y z:Int} {m:Nat} {p q:Rat} {a b w:QV} {l:List UInt8}
def Ki{n m:Nat}(h:n<2^m):(P5 n).length<=m+1:=by
 rw [V5 o]
 have:2^m<=10^(m+1):=Nat.le_trans (Nat.pow_le_pow_left dc m) (Nat.pow_le_pow_right dc o)
 omega
end
def ndg(x:Nat):Nat:=x*78913/262144
def B5q:∀ x,x<65->2^x<=10^(ndg x+1)/\(ndg x=0\/10^(ndg x-1)<=2^(x-1))/\ndg x<=19:=dc
def A1k{n k:Nat}(h1:10^k<=n)(h2:n<10^(k+1)):(dd n).length=k+1:=by
 have a:=(U9 (n:=n) (k:=k+1)).2 h2
 have b:¬ (dd n).length<=k:=fun e=>by have:=U9.1 e;omega
 omega
def C1q{d:Nat}(h0:d≠0)(h:d<2^64):(dd d).length=ndg (V6 d)+(if 10^ndg (V6 d)<=d then 1 else 0):=by
 have i:=Hx h
 obtain ⟨c,g⟩:=Ed h0
 obtain ⟨e,a,j⟩:=B5q (V6 d) o
 split
 ·rename_i b
  exact A1k b o
 ·rename_i b
  rcases a with a|a
  ·grind
  ·obtain ⟨k,hk⟩:∃ k,ndg (V6 d)=k+1:=by
    by_cases l:ndg (V6 d)=0
    ·grind
    ·exact ⟨ndg (V6 d)-1,o⟩
   rw [hk] at b a ⊢
   rw [Nat.add_sub_cancel] at a
   exact A1k o o
def B7u(w n:Nat):pad (w+2) n=pad w (n/100)++[dch (n/10%10),dch (n%10)]:=by
 rw [Rf,Rf,Nat.div_div_eq_div_mul];simp
def A92(n:Nat)(h:n=0):pad 0 n=[]:=by subst h;simp [pad,N9]
abbrev b64:Int:=18446744073709551616
abbrev Mw(h:bJ)(A:Option bU)(len:Nat)(n:Int):Prop:=Mag .u64 b64 h A len n
structure Win (k:cZ) (h g:bJ) (b:Nat) (e:cK) (A:Option bU) (pre:List eO) (xs:List Int) (post:List eO):Prop where
 free:g b=none
 eq:h=g.put b (.cells (pre++xs.map (bM k)++post).toArray e)
 at_:xs=[]\/A=some ⟨b,pre.length,none⟩
section
variable {k:cZ} {h g:bJ} {b:Nat} {e:cK} {A:Option bU} {pre post:List eO} {xs:List Int}
def Win.le(w:Win k h g b e A pre xs post):g.le h:=by rw [w.eq];exact Heap.le_put _ w.free
def Win.sl(w:Win k h g b e A pre xs post):SlI k h A xs:=by
 rcases w.at_ with rfl|a
 ·exact SlI.nil
 ·right
  refine ⟨_,a,fun i v c=>?_⟩
  rw [w.eq,D4,C4]
  grind
def Win.store{P:dI}{t:cK}(one:P.cellsOf t=1/\(P.info? t).isSome=true)(w:Win k h g b e A pre xs post){a:bU}(ha:A=some a){i v:Int}(h0:0<=i)(h1:i<xs.length){K:Unit->bJ->Prop}
 (x:∀ h',Win k h' g b e A pre (xs.set i.toNat v) post->K () h'):wpH P (dT t (.pointer (some (eS a (i.toNat*1)))) (.int k v)) K h:=by
 have c:A=some ⟨b,pre.length,none⟩:=by
  rcases w.at_ with rfl|c
  ·grind
  ·exact c
 rw [ha] at c
 cases c
 rw [w.eq,D4,fF]
 refine Dr one.1 one.2 rfl rfl gz0 ?_
 refine x _ ⟨w.free,?_,.inr ha⟩
 simp_all
def Win.storeN{P:dI}{t:cK}(one:P.cellsOf t=1/\(P.info? t).isSome=true)(w:Win k h g b e A pre xs post){a:bU}(ha:A=some a){i:Nat}{v:Int}(h1:i<xs.length){K:Unit->bJ->Prop}
 (x:∀ h',Win k h' g b e A pre (xs.set i v) post->K () h'):wpH P (dT t (.pointer (some (eS a (i*1)))) (.int k v)) K h:=by
 have:=w.store one ha (i:=(i:Int)) (v:=v) (K:=K) o o (by assumption)
 assumption
def Win.call{P:dI}{f:FuncId}{args:Array eO}(w:Win k h g b e A pre xs post){K:VP}(x:aY P f args g (fun r h0=>∀ h',Win k h' h0 b e A pre xs post->K r h')):aY P f args h K:=by
 rw [w.eq]
 exact FCall.frame w.free x fun r h0 a c=>c _ ⟨a,rfl,w.at_⟩
def Win.blk(k:cZ)(e:cK){g:bJ}{b:Nat}(hb:g b=none)(zs:List Int):Win k (Go.Proofs.YtbgkfnjmcjfokaaGreatDoor.blk k e g b zs) g b e (some ⟨b,0,none⟩) [] zs []:=
 ⟨hb,by simp [Go.Proofs.YtbgkfnjmcjfokaaGreatDoor.blk],.inr rfl⟩
def Win.sub(w:Win k h g b e A pre xs post){l m c:Nat}(hl:l<=m)(hm:m<=xs.length)(hc:xs.length<=c):
 Win k h g b e (U3 A c l 1) (pre++(xs.take l).map (bM k)) ((xs.drop l).take (m-l)) ((xs.drop m).map (bM k)++post):=by
 refine ⟨w.free,?_,?_⟩
 ·rw [w.eq]
  congr 3
  have:xs=xs.take l++((xs.drop l).take (m-l)++xs.drop m):=by
   have d:xs.drop m=(xs.drop l).drop (m-l):=by simp_all
   rw [d,dB,dB]
  grind
 ·by_cases i:m-l=0
  ·grind
  ·right
   rcases w.at_ with rfl|a
   ·grind
   ·unfold U3
    rw [iN o,a]
    simp only [Option.map_some,D4,fF,aX,fI,aK]
    grind
def Win.whole{h' g':bJ}(w:Win k h g b e A pre xs post){l m:Nat}(hl:l<=m)(hm:m<=xs.length){B:Option bU}{ys:List Int}(hy:ys.length=m-l)(v:Win k h' g' b e B (pre++(xs.take l).map (bM k)) ys ((xs.drop m).map (bM k)++post)):
 Win k h' g' b e A pre (xs.take l++ys++xs.drop m) post:=by
 refine ⟨v.free,?_,?_⟩
 ·rw [v.eq]
  grind
 ·rcases w.at_ with rfl|a
  ·grind
  grind
def Priv.win{n c:Nat}(p:Priv h g e 1 A n c (xs.map (bM k)))(hx:xs≠[]):∃ b post,Win k h g b e A [] xs post:=by
 obtain ⟨r,m,i⟩:=p
 rcases i with ⟨s,rfl⟩|⟨b,a,l,j,rfl,q,d⟩
 ·simp_all
 ·refine ⟨b,a.drop (n*1),j,?_,.inr l⟩
  rw [cM,<- d,dB]
end
def Ec{P:dI}{t:cK}(one:P.cellsOf t=1/\(P.info? t).isSome=true){k:cZ}{n:Int}{i:Nat}{g:bJ}{b:Nat}{e:cK}{zs:List Int}(hi:i<zs.length){K:Unit->bJ->Prop}
 (x:K () (blk k e g b (zs.set i n))):wpH P (dT t (.pointer (some (eS ⟨b,0,none⟩ (i*1)))) (.int k n)) K (blk k e g b zs):=by
 have:=Tl (P:=P) (t:=t) one (k:=k) (n:=n) (i:=(i:Int)) (g:=g) (b:=b) (e:=e) (zs:=zs) (K:=K) o (by assumption)
 assumption
def Cc{P:dI}{t e e' ty:cK}{k:cZ}{bytes:Nat}(s:SliceT P t e' (.int k 0) 1 bytes){h g:bJ}{b:Nat}{A:Option bU}{pre post:List eO}{xs:List Int}{n c m d:Nat}(w:Win k h g b e A pre xs post)(hn:n=xs.length){B:Option bU}{ys:List Int}(sy:SlI k h B ys)(hm:m=ys.length)(hle:ys.length<=xs.length){K:VP}
 (x:∀ h',Win k h' g b e A pre (ys++xs.drop ys.length) post->K (I ys.length) h'):wpH P (dU #[t,t] ty #[.slice A n c,.slice B m d]) K h:=by
 subst hn hm
 obtain ⟨i,y,z,p,q⟩:=s.parts
 unfold dU
 simp only [List.getElem?_toArray,aI,aP,C1,E4 s.und,L4 y,I4,Builtin.lenOf,p]
 have j:Nat.min ys.length xs.length=ys.length:=aJ hle
 rw [j]
 refine O6 (s:=1) (cs:=ys.map (bM k)) (by simp) sy ?_
 cases A with
 | none=>
  rcases w.at_ with l|l
  ·have:ys=[]:=bH gz0
   subst this
   exact x h (by assumption)
  ·cases l
 | some a=>
  simp only [C1]
  rcases w.at_ with l|l
  ·have:ys=[]:=bH gz0
   subst this
   exact x h (by assumption)
  ·cases l
   rw [w.eq]
   refine I3 (ys.map (bM k)) pre.length 0 (pre++xs.map (bM k)++post) gz0 (fun v r=>?_) ?_
   ·obtain ⟨u,_,rfl⟩:=List.mem_map.1 r;rfl
   ·refine x _ ⟨w.free,?_,?_⟩
    ·congr 3
     unfold F2
     rw [fZ,cJ pre,dH rfl,fI]
     rw [fE,aZ (show pre.length<=pre.length+ys.length from o),fR,cM]
     rw [dF gz0,<- List.map_drop,eG]
     grind
    grind
def A4i{P:dI}{nm:String}{x y c:Int}(hc:0<=c/\c<=1){f:Nat × Nat × Nat->eO}:H2 P (Extern.MathBitsCarry.three nm #[U x,U y,U c] >>= fun p=>pure (f p))=some (f (x.toNat,y.toNat,c.toNat)):=by
 obtain rfl|rfl:c=0\/c=1:=o
 ·rfl
 ·rfl
def A9l:aU=18446744073709551616:=dc
def Cv{h:bJ}{K:VP}{x y c:Int}(hx:0<=x/\x<18446744073709551616)(hy:0<=y/\y<18446744073709551616)(hc:0<=c/\c<=1)(hK:K (.tuple #[U ((x+y+c)%18446744073709551616),U ((x+y+c)/18446744073709551616)]) h):ECall prog 287 #[U x,U y,U c] h K:=by
 refine B5z A76 (A4i (P:=prog) hc (f:=fun p=>fO ((p.1+p.2.1+p.2.2)%aU) ((p.1+p.2.1+p.2.2)/aU))) ?_
 have b:((x.toNat+y.toNat+c.toNat)%aU:Nat)=(((x+y+c)%18446744073709551616:Int)):=by
  rw [A9l]
  omega
 have a:((x.toNat+y.toNat+c.toNat)/aU:Nat)=(((x+y+c)/18446744073709551616:Int)):=by
  rw [A9l]
  omega
 show K (.tuple #[U ((x.toNat+y.toNat+c.toNat)%aU:Nat),U ((x.toNat+y.toNat+c.toNat)/aU:Nat)]) h
 grind
def Es{h:bJ}{K:VP}{x y c:Int}(hx:0<=x/\x<18446744073709551616)(hy:0<=y/\y<18446744073709551616)(hc:0<=c/\c<=1)(hK:K (.tuple #[U ((x-y-c)%18446744073709551616),U (if x-y-c<0 then 1 else 0)]) h):ECall prog 254 #[U x,U y,U c] h K:=by
 refine B5z A75 (A4i (P:=prog) hc (f:=fun p=>fO ((p.1+aU-p.2.1-p.2.2)%aU) (if p.1<p.2.1+p.2.2 then 1 else 0))) ?_
 have a:((x.toNat+aU-y.toNat-c.toNat)%aU:Nat)=(((x-y-c)%18446744073709551616:Int)):=by
  rw [A9l]
  omega
 show K (.tuple #[U ((x.toNat+aU-y.toNat-c.toNat)%aU:Nat),U ((if x.toNat<y.toNat+c.toNat then 1 else 0:Nat):Nat)]) h
 grind
def Bb(x y:Int):Int:=if x<y then -1 else if x>y then 1 else 0
def A9d{h:bJ}{K:VP}{x:Int}(hK:K (.bool false) h):aY prog 274 #[I x] h K:=by
 refine (fnk func274) ?_
 grind
def A9c{h:bJ}{K:VP}{x:Int}(hK:K (.bool false) h):aY prog 289 #[U x] h K:=by
 refine (fnk func289) ?_
 grind
def A9e{h:bJ}{K:VP}{x:Int}(hK:K (.bool false) h):aY prog 195 #[I x] h K:=by
 refine (fnk func195) ?_
 have:(x != x)=false:=by simp
 rw [this];exact hK
def Tj{h:bJ}{K:VP}{x y:Int}(hK:K (I (Bb x y)) h):aY prog 207 #[I x,I y] h K:=by
 refine (fnk func207) ?_
 refine A9d ⟨_,rfl,A9d ⟨_,rfl,?_⟩⟩
 unfold Bb at hK
 refine B4 (fun a=>?_) (fun a=>B4 (fun b=>?_) (fun b=>?_))
 ·grind
 ·grind
 grind
def B10{h:bJ}{K:VP}{x y:Int}(hK:K (I (Bb x y)) h):aY prog 240 #[U x,U y] h K:=by
 refine (fnk func240) ?_
 refine A9c ⟨_,rfl,A9c ⟨_,rfl,?_⟩⟩
 unfold Bb at hK
 refine B4 (fun a=>?_) (fun a=>B4 (fun b=>?_) (fun b=>?_))
 ·grind
 ·grind
 grind
def B11{h:bJ}{K:VP}{x y:Int}(hK:K (I (Bb x y)) h):aY prog 121 #[I x,I y] h K:=by
 refine (fnk func121) ?_
 refine A9e ⟨_,rfl,A9e ⟨_,rfl,?_⟩⟩
 unfold Bb at hK
 refine B4 (fun a=>?_) (fun a=>B4 (fun b=>?_) (fun b=>?_))
 ·rw [iP a] at hK;exact hK
 ·rw [iN a,iP b] at hK;exact hK
 ·rw [iN a,iN b] at hK;exact hK
def Md{h:bJ}{K:VP}{x y:Int}(hx:0<=x/\x<18446744073709551616)(hy:0<=y/\y<18446744073709551616)(hK:K (.tuple #[U (x*y/18446744073709551616),U (x*y%18446744073709551616)]) h):aY prog 260 #[U x,U y] h K:=by
 refine (fnk func260) ?_
 rw [Eg hx,Eg hy]
 simp only [C04]
 obtain ⟨e,d,b,c,a⟩:=A3m hx hy (x1:=x/4294967296) (x0:=x%4294967296) (y1:=y/4294967296) (y0:=y%4294967296) o o o o
 generalize x/4294967296*(y/4294967296)=p11 at *
 generalize x/4294967296*(y%4294967296)=p10 at *
 generalize x%4294967296*(y/4294967296)=p01 at *
 generalize x%4294967296*(y%4294967296)=p00 at *
 rw [C3 (n:=p00) o o,C3 (n:=p10) o o,C3 (n:=p01) o o,C3 (n:=p11) o o]
 rw [C3 (n:=p10+p00/4294967296) o o,Eg o]
 rw [C3 (n:=(p10+p00/4294967296)%4294967296+p01) o o]
 rw [C3 (n:=p11+(p10+p00/4294967296)/4294967296) o o,C3 o o,J0]
 have:p11+(p10+p00/4294967296)/4294967296+((p10+p00/4294967296)%4294967296+p01)/4294967296=x*y/18446744073709551616:=by
  omega
 grind
def U8{h:bJ}{K:VP}{x y c:Int}(hx:0<=x/\x<18446744073709551616)(hy:0<=y/\y<18446744073709551616)(hc:0<=c/\c<18446744073709551616)(hK:K (.tuple #[U ((x*y+c)%18446744073709551616),U ((x*y+c)/18446744073709551616)]) h):aY prog 253 #[U x,U y,U c] h K:=by
 have a:0<=x*y/\x*y<=18446744073709551615*18446744073709551615:=⟨aR hx.1 hy.1,dM o o hy.1 dc⟩
 refine (fnk func253) ?_
 refine Md hx hy ⟨_,_,rfl,?_⟩
 refine Cv o hc o ⟨_,_,rfl,?_⟩
 rw [C3 o o]
 grind
def B8w(a:Array UInt8):({ data:=a }:ByteArray)=bs a.toList:=by simp [bs]
def A9m:List UInt8:=[0,1,2,2,3,3,3,3,4,4,4,4,4,4,4,4,5,5,5,5,5,5,5,5,5,5,5,5,5,5,5,5]++aF 32 6++aF 64 7++aF 128 8
def A6e:∀ i,i<256->(A9m[i]?).map UInt8.toNat=some (V6 i):=dc
def Zb{x s:Nat}(h:2^s<=x):V6 x=s+V6 (x/2^s):=by
 have b:0<2^s:=dO dc
 have a:x/2^s≠0:=by
  simp_all
 have:=A6w (l:=x%2^s) (t:=x/2^s) (j:=s) (fL _ b) a
 rw [Nat.mod_add_div] at this
 exact this
def Yh{h:bJ}{K:VP}{x:Nat}(hx:x<18446744073709551616)(hK:K (I (V6 x)) h):aY prog 273 #[U x] h K:=by
 refine B1w _ ?_
 have q:∀ (y s:Nat),s<=64->dN (y:Int) (2^(min ((s:Int)).toNat 64))=((y/2^s:Nat):Int):=by
  grind
 refine ⟨fun l a=>∃ (y n:Nat),l=[U y,I n]/\a=h/\y<4294967296/\V6 x=n+V6 y/\n<=32,B4 (fun d=>?_) (fun d=>?_),?_⟩
 ·refine ⟨x/2^32,32,?_,rfl,o,Zb o,o⟩
  grind
 ·exact ⟨x,0,rfl,rfl,o,o,o⟩
 rintro g b a ⟨y,n,p,rfl,m,e,r⟩
 obtain ⟨rfl,rfl⟩:g=(y:Int)/\b=(n:Int):=gz0
 refine ⟨fun l j=>∃ (y n:Nat),l=[U y,I n]/\j=a/\y<65536/\V6 x=n+V6 y/\n<=48,B4 (fun d=>?_) (fun d=>?_),?_⟩
 ·refine ⟨y/2^16,n+16,?_,rfl,o,by rw [e,Zb (x:=y) (s:=16) o];omega,o⟩
  rw [show (16:Int)=((16:Nat):Int) from rfl,q y 16 o,B5 o o];rfl
 ·grind
 rintro g b a ⟨y,n,p,rfl,m,e,r⟩
 obtain ⟨rfl,rfl⟩:g=(y:Int)/\b=(n:Int):=gz0
 refine ⟨fun l j=>∃ (y n:Nat),l=[U y,I n]/\j=a/\y<256/\V6 x=n+V6 y/\n<=56,B4 (fun d=>?_) (fun d=>?_),?_⟩
 ·refine ⟨y/2^8,n+8,?_,rfl,o,by rw [e,Zb (x:=y) (s:=8) o];omega,o⟩
  rw [show (8:Int)=((8:Nat):Int) from rfl,q y 8 o,B5 o o];rfl
 ·grind
 rintro g b a ⟨y,n,p,rfl,m,e,r⟩
 obtain ⟨rfl,rfl⟩:g=(y:Int)/\b=(n:Int):=gz0
 rw [A4a o o,aC]
 have w:=A6e y m
 cases hc:A9m[y]? with
 | none=>grind
 | some c=>
  have i:c.toNat=V6 y:=gz0
  refine ⟨c,⟨o,?_⟩,?_⟩
  ·try unfold A50
   rw [B8w,Wc];exact hc
  ·have u:V6 y<=8:=Hx (k:=8) o
   rw [i,B5 (n:=((V6 y:Nat):Int)) o o,B5 o o,<- eJ,<- e]
   exact hK
def T3{h:bJ}{K:VP}{x:Nat}(hx:x<18446744073709551616)(hK:K (I ((64-V6 x:Nat):Int)) h):aY prog 250 #[U x] h K:=by
 refine (fnk func250) ?_
 refine Yh hx ⟨_,rfl,?_⟩
 have a:V6 x<=64:=Hx (k:=64) o
 rw [B5 o o]
 have:(64:Int)-((V6 x:Nat):Int)=((64-V6 x:Nat):Int):=o
 rw [this];exact hK
def A1p{a b:Int}{s:Nat}(ha:0<=a)(hb:0<=b/\b<2^s)(hab:a*2^s+b<18446744073709551616):bor .u64 (a*2^s) b=a*2^s+b:=by
 have d:0<=a*2^s:=aR ha o
 rw [A6v o o]
 have e:(a*2^s).toNat=2^s*a.toNat:=by
  grind
 have c:b.toNat<2^s:=by
  grind
 rw [e,B5n c,<- e];omega
def Ak{s:Nat}(hs:s<=64):(2:Int)^s*2^(64-s)=18446744073709551616:=by
 rw [<- aW,show s+(64-s)=64 from o];decide
def B1z{x:Int}{s:Nat}(hs:s<=64):dN x (2^(min s 64))=x/2^s:=by
 grind
def Est.exact{B top u2 v1 v2 U V:Int}(e:Est B 1 top u2 0 v1 v2 0 U V){q:Int}(h:q*(v1*B+v2)<=top*B+u2):q*V<=U:=by
 have a:=e.hU
 have b:=e.hV
 grind
section
variable {h:bJ} {K:VP}
def B0x{T u2 v1 v2 X Y:Int}{hp:bJ}{J:Int->bJ->Prop}(es:Est 4294967296 1 T u2 0 v1 v2 0 X Y)(_hT:T<18446744073709551616)
 (hJ:∀ q,0<=q->q*Y<=X->X<(q+1)*Y->J q hp):
 ∃ (Inv:Int->Int->bJ->Prop) (mu:Int->Int->bJ->Nat),Inv (T/v1) (T%v1) hp/\
  ∀ q r hp1,Inv q r hp1->(q>=4294967296->Inv q r hp1)/\0<=q/\q<=4294967297/\0<=r/\r<4294967296/\hp1=hp/\
   (q<4294967296->¬ (q*v2>4294967296*r+u2)->J q hp1)/\
   ((q>=4294967296\/q*v2>4294967296*r+u2)->1<=q/\(r+v1>=4294967296->J (q-1) hp1)/\(r+v1<4294967296->Inv (q-1) (r+v1) hp1/\mu (q-1) (r+v1) hp1<mu q r hp1)):=by
 obtain ⟨F,G⟩:=es.first
 have n:=es.init
 have D:=es.v1r
 have p:=es.v2r
 have z:=es.u2r
 have c:=es.top0
 have m:0<=T/v1:=bX c o
 have A:=aO T v1
 have l:=aT T (show v1≠0 from o)
 have B:=aL T (show 0<v1 from o)
 refine ⟨fun q r hp1=>hp1=hp/\0<=q/\q<=4294967297/\0<=r/\r<4294967296/\q*v1+r=T/\X<(q+1)*Y,fun q _ _=>q.toNat,⟨rfl,m,o,l,o,gz0,n⟩,?_⟩
 rintro q r hp1 ⟨rfl,g,u,w,s,k,b⟩
 have key:q*(v1*4294967296+v2)=(T-r)*4294967296+q*v2:=gz0
 refine ⟨fun _=>⟨rfl,g,u,w,s,k,b⟩,g,u,w,s,rfl,fun i E=>hJ q g (es.exact o) b,fun e=>?_⟩
 have y:X<q*Y:=by
  rcases e with i|i
  ·exact es.big i
  ·exact es.low g o
 have j:1<=q:=by
  grind
 have a:X<(q-1+1)*Y:=gz0
 have d:(q-1)*v1+(r+v1)=T:=gz0
 refine ⟨j,fun C=>?_,fun C=>⟨⟨rfl,o,o,o,o,d,a⟩,gz0⟩⟩
 have x:(q-1)*(v1*4294967296+v2)=(T-(r+v1))*4294967296+(q-1)*v2:=gz0
 have i:(q-1)*v2<=4294967296*v2:=aE o p.1
 exact hJ (q-1) o (es.exact o) a
def Rh{hi lo:Int}{y:Nat}(hhi:0<=hi/\hi<y)(hlo:0<=lo/\lo<18446744073709551616)(hy:y<18446744073709551616)
 (hK:K (.tuple #[U ((hi*18446744073709551616+lo)/y),U ((hi*18446744073709551616+lo)%y)]) h):aY prog 256 #[U hi,U lo,U y] h K:=by
 refine B1x _ _ _ ?_
 unfold B6b
 refine C8 (fun e=>absurd e o) (fun _=>?_)
 refine B4 (fun e=>absurd e o) (fun _=>?_)
 refine C8 (fun e=>?_) (fun a3=>?_)
 ·refine B4 (fun e=>absurd e o) (fun _=>?_)
  refine B4 (fun e=>absurd e o) (fun _=>?_)
  subst e
  rw [dY,cQ] at hK
  rw [bC hlo.1,cO hlo.1,C3 (bX hlo.1 o) (cL (dV _ hlo.1) hlo.2)]
  exact hK
 refine T3 hy ⟨_,rfl,?_⟩
 have am:y≠0:=o
 obtain ⟨bg,bc⟩:=Ed am
 have a0:V6 y<=64:=Hx (k:=64) o
 have bb:1<=V6 y:=gz0
 obtain ⟨s,hs⟩:∃ s,s=64-V6 y:=⟨_,rfl⟩
 rw [<- hs]
 have a1:s<64:=o
 have m:0<(2:Int)^s:=bO dc
 have O:=Ak (s:=s) o
 have ai:0<(2:Int)^(64-s):=bO dc
 have ah:V6 y=64-s:=o
 have ap:(y:Int)<2^(64-s):=by
  grind
 have ac:(2:Int)^(63-s)<=y:=by
  grind
 have F:(2:Int)^s*2^(63-s)=9223372036854775808:=by
  rw [<- aW,show s+(63-s)=63 from o];decide
 have ag:C6 (s:Int)=(s:Int):=C3 o o
 have ab:C6 ((64:Int)-s)=((64-s:Nat):Int):=by rw [C3 o o];omega
 have G:(y:Int)*2^s<18446744073709551616:=by
  rw [<- O,aV];exact bY ap m
 have az:9223372036854775808<=(y:Int)*2^s:=by
  rw [<- F,aV (y:Int)];exact aH ac o
 have eY:C6 ((y:Int)*2^(min s 64))=(y:Int)*2^s:=by rw [aJ o,C3 o G]
 have a9:hi*2^s+2^s<=(y:Int)*2^s:=by
  have:=aE (show hi+1<=(y:Int) from o) (aQ m)
  grind
 have V:0<=hi*2^s:=aR hhi.1 o
 have aa:0<=lo/2^(64-s)/\lo/2^(64-s)<2^s:=by
  refine ⟨bX hlo.1 o,bG ai ?_⟩
  omega
 have eT:bor .u64 (C6 (hi*2^(min s 64))) (dN lo (2^(min (64-s) 64)))=hi*2^s+lo/2^(64-s):=by
  rw [aJ (show s<=64 from o),C3 V o,B1z o,A1p hhi.1 aa o]
 have eL:C6 (lo*2^(min s 64))=lo*2^s%18446744073709551616:=by rw [aJ o,J0]
 have ba:0<=lo*2^s%18446744073709551616/\lo*2^s%18446744073709551616<18446744073709551616:=⟨aT _ dc,aL _ dc⟩
 have hN:(hi*18446744073709551616+lo)*2^s=(hi*2^s+lo/2^(64-s))*18446744073709551616+lo*2^s%18446744073709551616:=by
  have d1:lo*2^s/18446744073709551616=lo/2^(64-s):=by
   rw [<- O,aV lo,Int.mul_ediv_mul_of_pos _ _ m]
  grind
 generalize hTT:hi*2^s+lo/2^(64-s)=T at *
 generalize hLL:lo*2^s%18446744073709551616=L at *
 generalize hYY:(y:Int)*2^s=Y at *
 have x:0<=T/\T<Y:=o
 unfold A2b A2d A2a A2c
 simp only [ag,ab,aC,eY,eT,eL,C04]
 rw [Eg o,Eg o]
 have e1:Est 4294967296 1 T (L/4294967296) 0 (Y/4294967296) (Y%4294967296) 0 (T*4294967296+L/4294967296) Y:=
  ⟨dc,dc,o,o,o,o,o,o,x.1,o,o⟩
 refine B4 (fun e=>absurd e o) (fun _=>?_)
 refine B4 (fun e=>absurd e o) (fun _=>?_)
 refine B4 (fun e=>absurd e o) (fun _=>?_)
 refine B4 (fun e=>absurd e o) (fun _=>?_)
 refine B4 (fun e=>absurd e o) (fun _=>?_)
 have bm:∀ {q w:Int},0<=q->q<=4294967296->0<=w->w<4294967296->0<=q*w/\q*w<18446744073709551616:=by
  intro q w a b c d
  refine ⟨aR a c,?_⟩
  have:=dM b (show w<=4294967295 from o) c dc
  omega
 refine ⟨fun l hp=>∃ q,l=[U q]/\hp=h/\0<=q/\q*Y<=T*4294967296+L/4294967296/\T*4294967296+L/4294967296<(q+1)*Y,?_,?_⟩
 ·obtain ⟨Inv,mu,i0,st⟩:=B0x (hp:=h) (J:=fun q hp=>∃ j,[U q]=[U j]/\hp=h/\0<=j/\j*Y<=T*4294967296+L/4294967296/\T*4294967296+L/4294967296<(j+1)*Y) e1 o (fun q a b c=>⟨q,rfl,rfl,a,b,c⟩)
  refine ⟨fun l hp=>∃ q r,l=[U q,U r]/\Inv q r hp,fun l hp=>mu (iAt l 0) (iAt l 1) hp,⟨T/(Y/4294967296),T%(Y/4294967296),?_,i0⟩,?_⟩
  ·have dm:=aO T (Y/4294967296)
   have H:=bX x.1 (show 0<=Y/4294967296 from o)
   have d1:T/(Y/4294967296)<=T:=dV _ x.1
   have d2:=aT T (show Y/4294967296≠0 from o)
   rw [bC x.1,C3 (n:=T/(Y/4294967296)) H o,aV (T/(Y/4294967296))]
   have d3:=aR (show 0<=Y/4294967296 from o) H
   rw [C3 (n:=Y/4294967296*(T/(Y/4294967296))) d3 o,C3 o o]
   have:T-Y/4294967296*(T/(Y/4294967296))=T%(Y/4294967296):=o
   rw [this]
  rintro q r u ⟨j,r',hl,hI⟩
  obtain ⟨rfl,rfl⟩:q=j/\r=r':=by simpa using hl
  obtain ⟨_,g,i,r0,r1,rfl,ok,E⟩:=st q r u hI
  have N:=bm (q:=4294967296) (w:=r) o o r0 r1
  refine ⟨fun l hp=>l=[]/\hp=u/\(q>=4294967296\/q*(Y%4294967296)>4294967296*r+L/4294967296),B4 (fun S=>⟨rfl,rfl,.inl S⟩) (fun S=>?_),?_⟩
  ·have Q:=bm (q:=q) (w:=Y%4294967296) g o o o
   rw [C3 Q.1 Q.2,C3 N.1 N.2,C3 (n:=4294967296*r+L/4294967296) o o]
   exact B4 (fun D=>⟨rfl,rfl,.inr D⟩) (fun D=>ok o D)
  ·rintro ak ⟨_,rfl,p⟩
   obtain ⟨g1,g2,X⟩:=E p
   rw [C3 (n:=r+Y/4294967296) o o,C3 (n:=q-1) o o]
   exact B4 (fun M=>g2 M) (fun M=>⟨⟨_,_,rfl,(X o).1⟩,(X o).2⟩)
 rintro i A ⟨ae,a8,rfl,aq,a6,bf⟩
 obtain rfl:i=ae:=gz0
 have ay:i<4294967296:=by
  by_cases B:i<4294967296
  ·exact B
  ·have:=aE (show 4294967296<=i from o) (show 0<=Y from o);omega
 have bh:(i+1)*Y=i*Y+Y:=gz0
 have a2:0<=i*Y:=aR aq o
 have af:C6 (C6 (C6 (T*4294967296)+L/4294967296)-C6 (i*Y))=T*4294967296+L/4294967296-i*Y:=by
  simp only [J0];omega
 simp only [af]
 generalize hRR:T*4294967296+L/4294967296-i*Y=R at *
 have z:0<=R/\R<Y:=o
 refine B4 (fun e=>absurd e o) (fun _=>?_)
 have e2:Est 4294967296 1 R (L%4294967296) 0 (Y/4294967296) (Y%4294967296) 0 (R*4294967296+L%4294967296) Y:=
  ⟨dc,dc,o,o,o,o,o,o,z.1,o,o⟩
 refine ⟨fun l hp=>∃ q,l=[U q]/\hp=A/\0<=q/\q*Y<=R*4294967296+L%4294967296/\R*4294967296+L%4294967296<(q+1)*Y,?_,?_⟩
 ·obtain ⟨Inv,mu,i0,st⟩:=B0x (hp:=A) (J:=fun q hp=>∃ j,[U q]=[U j]/\hp=A/\0<=j/\j*Y<=R*4294967296+L%4294967296/\R*4294967296+L%4294967296<(j+1)*Y) e2 o (fun q a b c=>⟨q,rfl,rfl,a,b,c⟩)
  refine ⟨fun l hp=>∃ q r,l=[U r,U q]/\Inv q r hp,fun l hp=>mu (iAt l 1) (iAt l 0) hp,⟨R/(Y/4294967296),R%(Y/4294967296),?_,i0⟩,?_⟩
  ·have dm:=aO R (Y/4294967296)
   have H:=bX z.1 (show 0<=Y/4294967296 from o)
   have d1:R/(Y/4294967296)<=R:=dV _ z.1
   have d2:=aT R (show Y/4294967296≠0 from o)
   rw [bC z.1,C3 (n:=R/(Y/4294967296)) H o,aV (R/(Y/4294967296))]
   have d3:=aR (show 0<=Y/4294967296 from o) H
   rw [C3 (n:=Y/4294967296*(R/(Y/4294967296))) d3 o,C3 o o]
   have:R-Y/4294967296*(R/(Y/4294967296))=R%(Y/4294967296):=o
   rw [this]
  rintro r q u ⟨j,r',hl,hI⟩
  obtain ⟨rfl,rfl⟩:r=r'/\q=j:=by simpa using hl
  obtain ⟨_,g,i,r0,r1,rfl,ok,E⟩:=st q r u hI
  have N:=bm (q:=4294967296) (w:=r) o o r0 r1
  refine ⟨fun l hp=>l=[]/\hp=u/\(q>=4294967296\/q*(Y%4294967296)>4294967296*r+L%4294967296),B4 (fun S=>⟨rfl,rfl,.inl S⟩) (fun S=>?_),?_⟩
  ·have Q:=bm (q:=q) (w:=Y%4294967296) g o o o
   rw [C3 Q.1 Q.2,C3 N.1 N.2,C3 (n:=4294967296*r+L%4294967296) o o]
   exact B4 (fun D=>⟨rfl,rfl,.inr D⟩) (fun D=>ok o D)
  ·rintro ak ⟨_,rfl,p⟩
   obtain ⟨g1,g2,X⟩:=E p
   rw [C3 (n:=r+Y/4294967296) o o,C3 (n:=q-1) o o]
   exact B4 (fun M=>g2 M) (fun M=>⟨⟨_,_,rfl,(X o).1⟩,(X o).2⟩)
 rintro g be ⟨aj,a4,rfl,ao,a7,a5⟩
 obtain rfl:g=aj:=gz0
 refine B4 (fun e=>absurd e o) (fun _=>?_)
 have ar:g<4294967296:=by
  by_cases B:g<4294967296
  ·exact B
  ·have:=aE (show 4294967296<=g from o) (show 0<=Y from o);omega
 have bd:(g+1)*Y=g*Y+Y:=gz0
 have au:0<=g*Y:=aR ao o
 have an:C6 (C6 (C6 (R*4294967296)+L%4294967296)-C6 (g*Y))=R*4294967296+L%4294967296-g*Y:=by
  simp only [J0];omega
 rw [an,C3 (n:=i*4294967296) o o,C3 (n:=i*4294967296+g) o o,B1z o]
 have ax:(hi*18446744073709551616+lo)*2^s=(i*4294967296+g)*(y*2^s)+(R*4294967296+L%4294967296-g*Y):=by
  grind
 have C:R*4294967296+L%4294967296-g*Y=(hi*18446744073709551616+lo-(i*4294967296+g)*y)*2^s:=gz0
 rw [C,eU _ (show (2:Int)^s≠0 from o)]
 have al:0<=hi*18446744073709551616+lo-(i*4294967296+g)*y:=by
  by_cases B:0<=hi*18446744073709551616+lo-(i*4294967296+g)*y
  ·exact B
  ·have:=aE (show hi*18446744073709551616+lo-(i*4294967296+g)*y <= -1 from o) (aQ m);omega
 have ad:hi*18446744073709551616+lo-(i*4294967296+g)*y<y:=by
  by_cases B:hi*18446744073709551616+lo-(i*4294967296+g)*y<y
  ·exact B
  ·have:=aE (show (y:Int)<=hi*18446744073709551616+lo-(i*4294967296+g)*y from o) (aQ m);omega
 have W:(hi*18446744073709551616+lo)/y=i*4294967296+g:=by
  have:hi*18446744073709551616+lo=(hi*18446744073709551616+lo-(i*4294967296+g)*y)+(i*4294967296+g)*y:=o
  rw [this,eE _ _ o,bL al ad,cQ]
 have av:(hi*18446744073709551616+lo)%y=hi*18446744073709551616+lo-(i*4294967296+g)*y:=by
  rw [Int.emod_def,W,aV (y:Int)]
 grind
end
def Q4{xs:List Int}(d:Dig b64 xs)(i:Nat):0<=xs.getD i 0/\xs.getD i 0<18446744073709551616:=d.getD dc i
def Dx(c:Int):0<=c%18446744073709551616/\c%18446744073709551616<b64:=⟨aT _ dc,aL _ dc⟩
section
variable {h g:bJ} {K:VP} {A B:Option bU} {ac bc:Nat}
def Dk{xs:List Int}(s:SlI .u64 h A xs)(hc:xs.length<=ac)(hl:xs.length<=100000000000000)(hK:∀ m,m<=xs.length->fB (xs.take m)->val b64 (xs.take m)=val b64 xs->K (.slice A m ac) h):aY prog 192 #[.slice A xs.length ac] h K:=by
 refine (fnk func192 [(2,[3],[],[I 0])]) ?_
 refine ⟨fun l d=>∃ m:Nat,l=[I m]/\m<=xs.length/\d=h/\val b64 (xs.take m)=val b64 xs,fun l _=>(iAt l 0).toNat,⟨xs.length,rfl,bI _,rfl,by rw [bZ]⟩,?_⟩
 rintro k q ⟨m,g,c,rfl,a⟩
 obtain rfl:k=(m:Int):=gz0
 refine B4 (fun p=>?_) (fun p=>?_)
 ·obtain ⟨j,rfl⟩:∃ j,m=j+1:=⟨m-1,o⟩
  have e:B9 (((j+1:Nat):Int)-1)=(j:Int):=by rw [B5 o o];omega
  rw [e]
  have n:=S9 b64 (xs:=xs) (i:=j) o
  refine s.load rfl o o ?_
  refine C8 (fun b=>?_) (fun b=>?_)
  ·exact ⟨⟨j,rfl,o,rfl,gz0⟩,by simp only [iAt,aI];omega⟩
  ·refine ⟨⟨o,o⟩,?_⟩
   rw [O7,aC,cH,cH]
   refine hK (j+1) c ?_ a
   rw [A03 o];exact A9a b
 ·have:m=0:=o
  subst this
  refine ⟨⟨o,o⟩,?_⟩
  rw [O7,aC,cH,cH]
  exact hK 0 o Norm.nil a
def R7{xs:List Int}(s:SlI .u64 h A xs)(hd:Dig b64 xs)(hc:xs.length<=ac)(hl:xs.length<=100000000000000)(hK:∀ m,m<=xs.length->Mw h A m (val b64 xs)->K (.slice A m ac) h):aY prog 192 #[.slice A xs.length ac] h K:=by
 refine Dk s hc hl ?_
 intro m a d b
 refine hK m a ⟨xs.take m,gz0,?_,hd.take m,d,b⟩
 have:=s.cut (c:=ac) (l:=0) (m:=m) o a hc
 simpa [O7] using this
def Bl{w:Int}(hw:0<=w/\w<18446744073709551616)(hK:∀ A m c h',h.le h'->m<=c->Mw h' A m w->K (.slice A m c) h'):aY prog 172 #[U w] h K:=by
 refine (fnk func172) ?_
 refine C8 (fun e=>?_) (fun e=>?_)
 ·subst e;exact hK none 0 0 h (B0 h) (bI _) Mag.zero
 ·refine Y5 Q6 rfl ?_
  intro b a
  exact ⟨_,_,_,rfl,hK _ _ _ _ (Heap.le_put _ a) (bI _) ⟨[w],rfl,SlI.new h b [w] 194 _,Dig.one hw,by simpa [fB] using e,Er _ _⟩⟩
def G8{x y:Int}{an bn:Nat}(ma:Mw h A an x)(mb:Mw h B bn y)(hl:an<=100000000000000)(hK:K (I (Bb x y)) h):aY prog 180 #[.slice A an ac,.slice B bn bc] h K:=by
 obtain ⟨xs,rfl,g,b,C,rfl⟩:=ma
 obtain ⟨a,rfl,m,dy,r,rfl⟩:=mb
 refine (fnk func180 [(4,[5],[],[I 0])]) ?_
 refine D6 (fun w=>?_) (fun w=>?_)
 ·refine Tj ⟨_,rfl,?_⟩
  have:Bb (xs.length:Int) (a.length:Int)=Bb (val b64 xs) (val b64 a):=by
   unfold Bb
   by_cases d:xs.length<a.length
   ·have:=Uy dc b dy r d
    omega
   ·have:=Uy dc dy b C o
    omega
  grind
 ·have n:xs.length=a.length:=o
  refine ⟨fun l p=>∃ k:Nat,l=[I ((k:Int)-1)]/\k<=xs.length/\p=h/\xs.drop k=a.drop k,fun l _=>(iAt l 0+1).toNat,⟨xs.length,?_,bI _,rfl,?_⟩,?_⟩
  ·rw [B5 o o]
  ·grind
  rintro i D ⟨k,u,E,rfl,c⟩
  obtain rfl:i=(k:Int)-1:=gz0
  refine B4 (fun d=>?_) (fun d=>?_)
  ·obtain ⟨j,rfl⟩:∃ j,k=j+1:=⟨k-1,o⟩
   have e:((j+1:Nat):Int)-1=(j:Int):=o
   rw [e]
   refine g.load rfl o o ?_
   refine m.load rfl o o ?_
   rw [aC]
   refine D6 (fun z=>?_) (fun z=>?_)
   ·refine g.load rfl o o ?_
    refine m.load rfl o o ?_
    refine B10 ⟨_,rfl,B0 _,?_⟩
    have:Bb (xs.getD j 0) (a.getD j 0)=Bb (val b64 xs) (val b64 a):=by
     unfold Bb
     by_cases s:xs.getD j 0<a.getD j 0
     ·have:=Ux dc b dy (i:=j) o o c s
      omega
     ·have:=Ux dc dy b (i:=j) o o c.symm o
      omega
    grind
   ·rw [B5 o o]
    refine ⟨⟨j,rfl,o,rfl,?_⟩,by simp only [iAt,aI];omega⟩
    rw [fN (show j<xs.length from o),fN (show j<a.length from o),c]
    grind
  ·have q:k=0:=o
   have:Bb (val b64 xs) (val b64 xs)=0:=by unfold Bb;omega
   grind
def Eb{xs:List Int}{an:Nat}(s:SlI .u64 h A xs)(hn:an=xs.length)(hl:xs.length<=17500000000000)(hK:∀ A' c' h' g',h.le g'->Priv h' g' 194 1 A' xs.length c' (xs.map (bM .u64))->K (.slice A' xs.length c') h'):aY prog 188 #[.slice A an ac] h K:=by
 subst hn
 refine (fnk func188) ?_
 refine Br.of (fun e=>?_) (fun e=>?_)
 ·have k:xs=[]:=by
   rcases s with m|⟨a,l,_⟩
   ·simp_all
   grind
  subst k
  exact hK none 0 h h (B0 h) (by simpa using Priv.nil _ _ _ _)
 ·refine Yg Q6 ?_
  intro b i
  refine ⟨_,_,_,rfl,?_⟩
  have c:=Heap.le_put (h:=h) (b:=b) (.cells #[] 194) i
  refine Tp Q6 (Priv.nil _ _ _ _) (ys:=xs.map (bM .u64)) (by simp) (SlI.mono c s) (fun v g=>?_) o o ?_
  ·obtain ⟨a,_,rfl⟩:=List.mem_map.1 g;rfl
  ·intro A' c' h' g' j d
   simp only [fT,cM] at d ⊢
   exact ⟨_,_,_,rfl,hK _ _ _ _ (A0 c j) d⟩
variable {b:Nat} {e:cK} {pre post:List eO}
def Ib{xs ys:List Int}{an bn:Nat}(w:Win .u64 h g b e A pre xs post)(hn:an=xs.length)(sy:SlI .u64 g B ys)(hm:bn=ys.length)(dx:Dig b64 xs)(dy:Dig b64 ys)(hle:ys.length<=xs.length)(hfit:val b64 xs+val b64 ys<b64^xs.length)(hl:xs.length<=100000000000000)
 (hK:∀ xs' h',xs'.length=xs.length->Dig b64 xs'->val b64 xs'=val b64 xs+val b64 ys->Win .u64 h' g b e A pre xs' post->K (.tuple #[]) h'):aY prog 235 #[.slice A an ac,.slice B bn bc] h K:=by
 subst hn hm
 refine (fnk func235 [(2,[4,10],[],[U 0,I 0]),(7,[4,7],[],[U 0,I 0])]) ?_
 refine ⟨fun l u=>∃ (k:Nat) (c:Int) (zs:List Int),l=[U c,I k]/\k<=ys.length/\zs.length=xs.length/\Dig b64 zs/\(0<=c/\c<=1)/\Win .u64 u g b e A pre zs post/\zs.drop k=xs.drop k/\val b64 (zs.take k)+c*b64^k=val b64 (xs.take k)+val b64 (ys.take k),fun l _=>ys.length-(iAt l 1).toNat,⟨0,0,xs,rfl,o,rfl,dx,o,w,rfl,by rfl⟩,?_⟩
 rintro c i u ⟨k,F,zs,L,O,m,p,C,j,d,z⟩
 obtain ⟨rfl,rfl⟩:c=F/\i=(k:Int):=gz0
 refine B4 (fun H=>?_) (fun H=>?_)
 ·have R:=Q4 dy k
  have D:=Q4 p k
  have r:=J9 d
  have G:=C7 b64 xs k
  have S:=C7 b64 ys k
  refine (sy.mono j.le).load rfl o o ?_
  refine j.sl.load m.symm o o ?_
  simp only [aC]
  refine Cv D R C ⟨_,_,rfl,?_⟩
  obtain ⟨a,x,_⟩:=SlV.at j.sl (i:=k) gz0
  refine ⟨a,x,o,o,j.storeN (i:=k) F8 x o ?_⟩
  intro h' E
  rw [B5 (n:=(k:Int)+1) o o]
  refine ⟨⟨k+1,_,_,rfl,o,gz0,p.set (Dx _),o,E,?_,?_⟩,by simp only [iAt,aI,aP];omega⟩
  ·rw [G7 o];exact H9 d
  ·rw [E6 o,J4,aK,aJ o,bF,Pb,G,S,<- r]
   grind
 ·have q:k=ys.length:=o
  subst q
  rw [bZ] at z
  refine ⟨fun l u=>∃ (k:Nat) (c:Int) (zs:List Int),l=[U c,I k]/\ys.length<=k/\k<=xs.length/\zs.length=xs.length/\Dig b64 zs/\(0<=c/\c<=1)/\Win .u64 u g b e A pre zs post/\zs.drop k=xs.drop k/\val b64 (zs.take k)+c*b64^k=val b64 (xs.take k)+val b64 ys,fun l _=>xs.length-(iAt l 1).toNat,⟨ys.length,c,zs,rfl,o,o,m,p,C,j,d,z⟩,?_⟩
  rintro c i u ⟨k,F,zs,L,Q,O,m,p,C,j,d,z⟩
  obtain ⟨rfl,rfl⟩:c=F/\i=(k:Int):=gz0
  have y:=J6 b64 zs (i:=k) o
  have s:=J6 b64 xs (i:=k) o
  refine D6 (fun N=>B4 (fun H=>?_) (fun H=>?_)) (fun N=>?_)
  ·have D:=Q4 p k
   have r:=J9 d
   have G:=C7 b64 xs k
   refine j.sl.load m.symm o o ?_
   simp only [aC]
   refine Cv D o C ⟨_,_,rfl,?_⟩
   obtain ⟨a,x,_⟩:=SlV.at j.sl (i:=k) gz0
   refine ⟨a,x,o,o,j.storeN (i:=k) F8 x o ?_⟩
   intro h' E
   rw [B5 (n:=(k:Int)+1) o o]
   refine ⟨⟨k+1,_,_,rfl,o,o,gz0,p.set (Dx _),o,E,?_,?_⟩,by simp only [iAt,aI,aP];omega⟩
   ·rw [G7 o];exact H9 d
   ·rw [E6 o,J4,aK,aJ o,bF,Pb,G,<- r]
    grind
  ·exfalso
   have q:k=xs.length:=o
   subst q
   have M:c=1:=o
   subst M
   rw [bZ] at z
   have:=C5 dc (p.take xs.length)
   omega
  grind
def Dp{xs ys:List Int}{an bn:Nat}(w:Win .u64 h g b e A pre xs post)(hn:an=xs.length)(sy:SlI .u64 g B ys)(hm:bn=ys.length)(dx:Dig b64 xs)(dy:Dig b64 ys)(hle:ys.length<=xs.length)(hfit:val b64 ys<=val b64 xs)(hl:xs.length<=100000000000000)
 (hK:∀ xs' h',xs'.length=xs.length->Dig b64 xs'->val b64 xs'=val b64 xs-val b64 ys->Win .u64 h' g b e A pre xs' post->K (.tuple #[]) h'):aY prog 288 #[.slice A an ac,.slice B bn bc] h K:=by
 subst hn hm
 refine (fnk func288 [(2,[4,10],[],[U 0,I 0]),(7,[4,7],[],[U 0,I 0])]) ?_
 have key:∀ {z y c:Int},(0<=z/\z<18446744073709551616)->(0<=y/\y<18446744073709551616)->(0<=c/\c<=1)->(z-y-c)%18446744073709551616=z-y-c+18446744073709551616*(if z-y-c<0 then 1 else 0):=by
  omega
 refine ⟨fun l x=>∃ (k:Nat) (c:Int) (zs:List Int),l=[U c,I k]/\k<=ys.length/\zs.length=xs.length/\Dig b64 zs/\(0<=c/\c<=1)/\Win .u64 x g b e A pre zs post/\zs.drop k=xs.drop k/\val b64 (zs.take k)=val b64 (xs.take k)-val b64 (ys.take k)+c*b64^k,fun l _=>ys.length-(iAt l 1).toNat,⟨0,0,xs,rfl,o,rfl,dx,o,w,rfl,by rfl⟩,?_⟩
 rintro c i x ⟨k,G,zs,N,R,m,p,r,j,d,C⟩
 obtain ⟨rfl,rfl⟩:c=G/\i=(k:Int):=gz0
 refine B4 (fun M=>?_) (fun M=>?_)
 ·have O:=Q4 dy k
  have u:=Q4 p k
  have q:=J9 d
  have H:=C7 b64 xs k
  have T:=C7 b64 ys k
  refine (sy.mono j.le).load rfl o o ?_
  refine j.sl.load m.symm o o ?_
  simp only [aC]
  refine Es u O r ⟨_,_,rfl,?_⟩
  obtain ⟨a,D,_⟩:=SlV.at j.sl (i:=k) gz0
  refine ⟨a,D,o,o,j.storeN (i:=k) F8 D o ?_⟩
  intro h' F
  rw [B5 (n:=(k:Int)+1) o o]
  refine ⟨⟨k+1,_,_,rfl,o,by simp_all,p.set (Dx _),o,F,?_,?_⟩,by simp only [iAt,aI,aP];omega⟩
  ·rw [G7 o];exact H9 d
  ·rw [E6 o,J4,aK,aJ o,bF,H,T,<- q,C,key u O r]
   grind
 ·have L:k=ys.length:=o
  subst L
  rw [bZ] at C
  refine ⟨fun l x=>∃ (k:Nat) (c:Int) (zs:List Int),l=[U c,I k]/\ys.length<=k/\k<=xs.length/\zs.length=xs.length/\Dig b64 zs/\(0<=c/\c<=1)/\Win .u64 x g b e A pre zs post/\zs.drop k=xs.drop k/\val b64 (zs.take k)=val b64 (xs.take k)-val b64 ys+c*b64^k,fun l _=>xs.length-(iAt l 1).toNat,⟨ys.length,c,zs,rfl,o,o,m,p,r,j,d,C⟩,?_⟩
  rintro c i x ⟨k,G,zs,N,S,R,m,p,r,j,d,C⟩
  obtain ⟨rfl,rfl⟩:c=G/\i=(k:Int):=gz0
  have E:=J6 b64 zs (i:=k) o
  have s:=J6 b64 xs (i:=k) o
  refine D6 (fun Q=>B4 (fun M=>?_) (fun M=>?_)) (fun Q=>?_)
  ·have u:=Q4 p k
   have q:=J9 d
   have H:=C7 b64 xs k
   refine j.sl.load m.symm o o ?_
   simp only [aC]
   refine Es u o r ⟨_,_,rfl,?_⟩
   obtain ⟨a,D,_⟩:=SlV.at j.sl (i:=k) gz0
   refine ⟨a,D,o,o,j.storeN (i:=k) F8 D o ?_⟩
   intro h' F
   rw [B5 (n:=(k:Int)+1) o o]
   refine ⟨⟨k+1,_,_,rfl,o,o,gz0,p.set (Dx _),o,F,?_,?_⟩,by simp only [iAt,aI,aP];omega⟩
   ·rw [G7 o];exact H9 d
   ·rw [E6 o,J4,aK,aJ o,bF,H,<- q,C,key u (y:=0) o r]
    grind
  ·exfalso
   have:=R9 dc (p.take xs.length)
   grind
  grind
def Zc{x y:Int}{an bn:Nat}(ma:Mw h A an x)(mb:Mw h B bn y)(hab:bn<=an)(hl:an<=30000000000000)(hb0:bn≠0)(hK:∀ A' m c' h',h.le h'->m<=c'->Mw h' A' m (x+y)->K (.slice A' m c') h'):
 wpH prog (Instr.makeSlice 74 (I (B9 ((an:Int)+1))) (I (B9 ((an:Int)+1)))) (fun v hp1=>∃ (t20A:Option bU) (t20n:Nat) (t20c:Nat),v= .slice t20A t20n t20c/\∀ ty,wpH prog (dU #[74,74] ty #[.slice t20A t20n t20c,.slice A an ac]) (fun v1 hp2=>∃ (t23:Int),v1=I t23/\aY prog 235 #[.slice t20A t20n t20c,.slice B bn bc] hp2 (fun r hp3=>r= .tuple #[]/\aY prog 192 #[.slice t20A t20n t20c] hp3 (fun r1 hp4=>∃ (t28A:Option bU) (t28n:Nat) (t28c:Nat),r1= .slice t28A t28n t28c/\K (.slice t28A t28n t28c) hp4))) hp1) h:=by
 obtain ⟨xs,rfl,C,n,M,rfl⟩:=ma
 obtain ⟨L,rfl,u,dy,G,rfl⟩:=mb
 have E:B9 ((xs.length:Int)+1)=((xs.length+1:Nat):Int):=by rw [B5 o o];omega
 rw [E]
 refine T6 Q6 o o o ?_
 intro b s
 refine ⟨_,_,_,rfl,fun ty=>?_⟩
 have k:=Win.blk .u64 194 s (aF (xs.length+1) 0)
 refine Cc Q6 k (by simp) (SlI.mono k.le C) rfl (by simp) ?_
 intro H i
 refine ⟨_,rfl,?_⟩
 have a:(aF (xs.length+1) (0:Int)).drop xs.length=[0]:=by simp_all
 rw [a] at i
 have d:val b64 (xs++[0])=val b64 xs:=by rw [J4];omega
 have p:=R9 dc n
 have z:=R9 dc dy
 have q:=D5 (B:=b64) dc hab
 refine Ib i (by simp) u rfl (n.append (Dig.one dc)) dy gz0 ?_ gz0 ?_
 ·grind
 intro zs F w e g l
 refine ⟨rfl,?_⟩
 have c:zs.length=xs.length+1:=gz0
 rw [<- c]
 refine R7 l.sl e o o ?_
 intro m D j
 rw [g,d] at j
 exact ⟨_,_,_,rfl,hK _ _ _ _ l.le D j⟩
def T9{x y:Int}{an bn:Nat}(ma:Mw h A an x)(mb:Mw h B bn y)(ha:an<=ac)(hb:bn<=bc)(hl:an<=30000000000000)(hl2:bn<=30000000000000)(hK:∀ A' m c' h',h.le h'->m<=c'->Mw h' A' m (x+y)->K (.slice A' m c') h'):aY prog 233 #[.slice A an ac,.slice B bn bc] h K:=by
 refine (fnk func233 (cs:=[(3,[0,1],[],[.slice none 0 0,.slice none 0 0])]) (wr:=[235])) ?_
 refine ⟨fun l h'=>h'=h/\∃ (A1 B1:Option bU) (a b c1 c2:Nat) (k n:Int),l=[.slice A1 a c1,.slice B1 b c2]/\Mw h A1 a k/\Mw h B1 b n/\b<=a/\a<=30000000000000/\a<=c1/\k+n=x+y,B4 (fun s=>?_) (fun s=>?_),?_⟩
 ·grind
 ·grind
 ·rintro A1 a c1 B1 b c2 C ⟨rfl,A1',B1',e,d,i,g,k,n,u,r,q,z,j,p,c⟩
  obtain ⟨⟨rfl,rfl,rfl⟩,rfl,rfl,rfl⟩:(A1=A1'/\a=e/\c1=i)/\B1=B1'/\b=d/\c2=g:=gz0
  rw [<- c] at hK
  refine C8 (fun w=>?_) (fun w=>?_)
  ·have:=(q.len_zero dc).2 o
   subst this
   rw [eD] at hK
   exact hK _ _ _ _ (B0 _) p r
  ·refine S8 _ (Zc (ac:=c1) (bc:=c2) r q z j o hK) ?_
   grind
def I5{x y:Int}{an bn:Nat}(ma:Mw h A an x)(mb:Mw h B bn y)(ha:an<=ac)(hl:an<=17500000000000)(hxy:y<=x)(hK:∀ A' m c' h',h.le h'->m<=c'->Mw h' A' m (x-y)->K (.slice A' m c') h'):aY prog 234 #[.slice A an ac,.slice B bn bc] h K:=by
 have g:bn<=an:=mb.len_le dc (cL hxy (ma.lt dc))
 refine (fnk func234 (wr:=[288])) ?_
 refine C8 (fun p=>?_) (fun p=>?_)
 ·have:=(mb.len_zero dc).2 o
  subst this
  rw [Int.sub_zero] at hK
  exact hK _ _ _ _ (B0 _) ha ma
 ·obtain ⟨xs,rfl,r,s,F,rfl⟩:=ma
  obtain ⟨E,rfl,q,dy,w,rfl⟩:=mb
  refine Eb r rfl o ?_
  intro A1 c1 z C k e
  refine ⟨_,_,_,rfl,?_⟩
  obtain ⟨b,j,n⟩:=e.win gz0
  refine Dp n rfl (q.mono k) rfl s dy g hxy o ?_
  intro zs u c a d l
  refine ⟨rfl,?_⟩
  rw [<- c]
  refine R7 l.sl a (by have:=e.2.1;omega) o ?_
  intro m D i
  rw [d] at i
  exact ⟨_,_,_,rfl,hK _ _ _ _ (A0 k l.le) (by have:=e.2.1;omega) i⟩
def Hz{zs xs:List Int}{an bn:Nat}{wd:Int}(w:Win .u64 h g b e A pre zs post)(hn:an=zs.length)(sx:SlI .u64 g B xs)(hm:bn=xs.length)(dz:Dig b64 zs)(dx:Dig b64 xs)(hle:zs.length=xs.length)(hw:0<=wd/\wd<18446744073709551616)(hl:xs.length<=100000000000000)
 (hK:∀ zs' c h',zs'.length=zs.length->Dig b64 zs'->(0<=c/\c<18446744073709551616)->val b64 zs'+c*b64^zs.length=val b64 zs+val b64 xs*wd->Win .u64 h' g b e A pre zs' post->K (U c) h'):aY prog 231 #[.slice A an ac,.slice B bn bc,U wd] h K:=by
 subst hn hm
 refine (fnk func231 [(3,[7,16],[],[U 0,I 0])]) ?_
 refine ⟨fun l s=>∃ (k:Nat) (c:Int) (d:List Int),l=[U c,I k]/\k<=xs.length/\d.length=zs.length/\Dig b64 d/\(0<=c/\c<18446744073709551616)/\Win .u64 s g b e A pre d post/\d.drop k=zs.drop k/\val b64 (d.take k)+c*b64^k=val b64 (zs.take k)+val b64 (xs.take k)*wd,fun l _=>xs.length-(iAt l 1).toNat,⟨0,0,zs,rfl,o,rfl,dz,o,w,rfl,by simp [val]⟩,?_⟩
 rintro c i s ⟨k,C,d,G,L,p,r,H,m,j,M⟩
 obtain ⟨rfl,rfl⟩:c=C/\i=(k:Int):=gz0
 refine B4 (fun E=>?_) (fun E=>?_)
 ·have u:=Q4 dx k
  have y:=Q4 r k
  have q:=J9 j
  have D:=C7 b64 xs k
  have F:=C7 b64 zs k
  have hm:0<=xs.getD k 0*wd/\xs.getD k 0*wd<=18446744073709551615*18446744073709551615:=⟨aR u.1 hw.1,dM o o hw.1 dc⟩
  refine (sx.mono m.le).load rfl o o ?_
  rw [aC]
  refine Md u hw ⟨_,_,rfl,?_⟩
  generalize hmm:xs.getD k 0*wd=mm at *
  refine Cv o H o ⟨_,_,rfl,?_⟩
  refine m.sl.load p.symm o o ?_
  rw [aC]
  refine Cv y o o ⟨_,_,rfl,?_⟩
  obtain ⟨a,x,_⟩:=SlV.at m.sl (i:=k) gz0
  refine ⟨a,x,o,o,m.storeN (i:=k) F8 x o ?_⟩
  intro h' z
  rw [B5 (n:=(k:Int)+1) o o]
  rw [C3 (n:=mm/18446744073709551616+(mm%18446744073709551616+c+0)/18446744073709551616) o o]
  rw [C3 o o]
  refine ⟨⟨k+1,_,_,rfl,o,gz0,r.set (Dx _),o,z,?_,?_⟩,by simp only [iAt,aI,aP];omega⟩
  ·rw [G7 o];exact H9 j
  ·rw [E6 o,J4,aK,aJ o,bF,D,F,<- q]
   grind
 grind
def Iz{zs xs:List Int}{an bn:Nat}{wd:Int}(w:Win .u64 h g b e A pre zs post)(hn:an=zs.length)(sx:SlI .u64 g B xs)(hm:bn=xs.length)(dz:Dig b64 zs)(dx:Dig b64 xs)(hle:zs.length=xs.length)(hw:0<=wd/\wd<18446744073709551616)(hl:xs.length<=100000000000000)
 (hK:∀ zs' c h',zs'.length=zs.length->Dig b64 zs'->(0<=c/\c<18446744073709551616)->val b64 zs'=val b64 zs-val b64 xs*wd+c*b64^zs.length->Win .u64 h' g b e A pre zs' post->K (U c) h'):aY prog 302 #[.slice A an ac,.slice B bn bc,U wd] h K:=by
 subst hn hm
 refine (fnk func302 [(3,[7,16],[],[U 0,I 0])]) ?_
 refine ⟨fun l s=>∃ (k:Nat) (c:Int) (d:List Int),l=[U c,I k]/\k<=xs.length/\d.length=zs.length/\Dig b64 d/\(0<=c/\c<18446744073709551616)/\Win .u64 s g b e A pre d post/\d.drop k=zs.drop k/\val b64 (d.take k)=val b64 (zs.take k)-val b64 (xs.take k)*wd+c*b64^k,fun l _=>xs.length-(iAt l 1).toNat,⟨0,0,zs,rfl,o,rfl,dz,o,w,rfl,by simp [val]⟩,?_⟩
 rintro c i s ⟨k,C,d,H,M,p,r,L,m,j,G⟩
 obtain ⟨rfl,rfl⟩:c=C/\i=(k:Int):=gz0
 refine B4 (fun E=>?_) (fun E=>?_)
 ·have u:=Q4 dx k
  have y:=Q4 r k
  have q:=J9 j
  have D:=C7 b64 xs k
  have F:=C7 b64 zs k
  have hm:0<=xs.getD k 0*wd/\xs.getD k 0*wd<=18446744073709551615*18446744073709551615:=⟨aR u.1 hw.1,dM o o hw.1 dc⟩
  refine (sx.mono m.le).load rfl o o ?_
  rw [aC]
  refine Md u hw ⟨_,_,rfl,?_⟩
  generalize hmm:xs.getD k 0*wd=mm at *
  refine Cv o L o ⟨_,_,rfl,?_⟩
  refine m.sl.load p.symm o o ?_
  rw [aC]
  refine Es y o o ⟨_,_,rfl,?_⟩
  obtain ⟨a,x,_⟩:=SlV.at m.sl (i:=k) gz0
  refine ⟨a,x,o,o,m.storeN (i:=k) F8 x o ?_⟩
  intro h' z
  rw [B5 (n:=(k:Int)+1) o o]
  rw [C3 (n:=mm/18446744073709551616+(mm%18446744073709551616+c+0)/18446744073709551616) o o]
  rw [C3 o o]
  refine ⟨⟨k+1,_,_,rfl,o,gz0,r.set (Dx _),o,z,?_,?_⟩,by simp only [iAt,aI,aP];omega⟩
  ·rw [G7 o];exact H9 j
  ·rw [E6 o,J4,aK,aJ o,bF,D,F,<- q,G]
   have key:(d.getD k 0-(mm%18446744073709551616+c+0)%18446744073709551616-0)%18446744073709551616=d.getD k 0-mm-c+18446744073709551616*(mm/18446744073709551616+(mm%18446744073709551616+c+0)/18446744073709551616+(if d.getD k 0-(mm%18446744073709551616+c+0)%18446744073709551616-0<0 then 1 else 0)):=o
   grind
 grind
end
def Vp{x z:Int}{s:Nat}(hs:s<=64)(_hx:0<=x/\x<18446744073709551616)(hz:0<=z/\z<(2:Int)^s):
 bor .u64 z (x*2^s%18446744073709551616)=z+x*2^s%18446744073709551616/\z+x*2^s%18446744073709551616<18446744073709551616/\x*2^s%18446744073709551616=2^s*(x%2^(64-s)):=by
 have i:=Ak hs
 have c:0<(2:Int)^s:=bO dc
 have l:0<(2:Int)^(64-s):=bO dc
 have a:z<18446744073709551616:=by
  have:(2:Int)^s*1<=2^s*2^(64-s):=aH o o
  omega
 have j:x*2^s%18446744073709551616=2^s*(x%2^(64-s)):=by
  rw [<- i,aV x,Int.mul_emod_mul_of_pos _ _ c]
 have e:=Dx (x*2^s)
 have k:0<=x%2^(64-s):=aT _ o
 have g:(x*2^s%18446744073709551616).toNat=2^s*(x%2^(64-s)).toNat:=by
  grind
 have d:z.toNat<2^s:=by
  grind
 have b:bor .u64 z (x*2^s%18446744073709551616)=z+x*2^s%18446744073709551616:=by
  rw [A6v ⟨hz.1,a⟩ e,g,Nat.or_comm,B5n d,<- g]
  omega
 refine ⟨b,?_,j⟩
 rw [<- b,A6v ⟨hz.1,a⟩ e]
 have:z.toNat ||| (x*2^s%18446744073709551616).toNat<2^64:=Nat.or_lt_two_pow o o
 omega
def Ha(k:Nat):b64^k=(2:Int)^(64*k):=by
 rw [show b64=(2:Int)^64 from dc,<- Int.pow_mul]
section
variable {h g:bJ} {K:VP} {A B:Option bU} {ac bc:Nat}
def R8{x:Int}{an s:Nat}(ma:Mw h A an x)(ha:an<=ac)(hl:an<=20000000000000)(hs:s<=100000000000000)(hK:∀ A' m c' h',h.le h'->m<=c'->Mw h' A' m (x*2^s)->K (.slice A' m c') h'):aY prog 173 #[.slice A an ac,U s] h K:=by
 have j:=ma.len_zero dc
 refine (fnk func173 [(6,[31],[],[I 0])]) ?_
 refine C8 (fun D=>?_) (fun D=>C8 (fun g=>?_) (fun g=>?_))
 ·have:=j.2 o
  subst this
  rw [dY] at hK
  exact hK _ _ _ _ (B0 _) ha ma
 ·have:s=0:=o
  subst this
  rw [gC,Int.mul_one] at hK
  exact hK _ _ _ _ (B0 _) ha ma
 ·obtain ⟨xs,rfl,W,dx,nx,rfl⟩:=ma
  obtain ⟨k0,hk0⟩:∃ k0,k0=s/64:=⟨_,rfl⟩
  obtain ⟨r,hr⟩:∃ r,r=s%64:=⟨_,rfl⟩
  have ed:B9 (C6 (dJ (s:Int) 64))=(k0:Int):=by
   rw [bC o,C3 o o,B5 o o];omega
  have S:eP (s:Int) 64=(r:Int):=gz0
  have C:C6 ((64:Int)-(r:Int))=((64-r:Nat):Int):=by rw [C3 o o];omega
  simp only [ed,S,C,aC]
  have e1:B9 (B9 ((xs.length:Int)+k0)+1)=((xs.length+k0+1:Nat):Int):=by rw [B5 (n:=(xs.length:Int)+k0) o o,B5 o o];omega
  rw [e1]
  refine T6 Q6 o o o ?_
  intro b E
  rw [aC]
  refine ⟨_,_,_,rfl,?_⟩
  have aa:0<(2:Int)^r:=bO dc
  have p:0<(2:Int)^(64-r):=bO dc
  have M:=Ak (s:=r) o
  refine ⟨fun l h'=>∃ (k:Nat) (zs:List Int),l=[I k]/\k<=xs.length/\zs.length=xs.length+k0+1/\Dig b64 zs/\h'=blk .u64 194 h b zs/\zs.drop (k+k0+1)=aF (xs.length-k) 0/\zs.getD (k+k0) 0<2^r/\val b64 (zs.take (k+k0+1))=val b64 (xs.take k)*2^s,fun l _=>xs.length-(iAt l 0).toNat,⟨0,_,rfl,o,by simp,P4 dc _,rfl,?_,?_,?_⟩,?_⟩
  ·grind
  ·grind
  ·rw [cT,Dl];simp [val]
  rintro i hp ⟨k,zs,ad,hk,a,c,rfl,q,F,y⟩
  obtain rfl:i=(k:Int):=gz0
  have u:=Wd (k:=.u64) (e:=194) E zs
  refine B4 (fun g=>?_) (fun g=>?_)
  ·have w:=Q4 dx k
   have z:=Q4 c (k+k0)
   have G:=C7 b64 xs k
   have X:=C7 b64 zs (k+k0)
   have Q:B9 ((k:Int)+k0)=((k+k0:Nat):Int):=by rw [B5 o o];omega
   have e3:B9 (((k+k0:Nat):Int)+1)=((k+k0+1:Nat):Int):=by rw [B5 o o];omega
   rw [Q,e3]
   refine (W.mono u).load rfl o o ?_
   refine (Tm .u64 194 h b zs).load a.symm o o ?_
   simp only [aC]
   refine B4 (fun e=>absurd e o) (fun _=>?_)
   refine ⟨_,rfl,o,o,?_⟩
   obtain ⟨R,O,o3⟩:=Vp (s:=r) o w ⟨z.1,F⟩
   rw [aJ (show r<=64 from o),J0,R,B1z (show 64-r<=64 from o)]
   have N:=Dx (xs.getD k 0*2^r)
   refine Ec (zs:=zs) (i:=k+k0) F8 o ?_
   refine B4 (fun e=>absurd e o) (fun _=>?_)
   refine ⟨_,rfl,o,o,?_⟩
   refine Ec (zs:=zs.set (k+k0) (zs.getD (k+k0) 0+xs.getD k 0*2^r%18446744073709551616)) (i:=k+k0+1) F8 gz0 ?_
   have L:0<=xs.getD k 0/2^(64-r)/\xs.getD k 0/2^(64-r)<2^r:=⟨bX w.1 o,bG p o⟩
   have T:(2:Int)^r<=9223372036854775808:=by
    have:=D5 (B:=2) dc (show r<=63 from o)
    omega
   rw [B5 (n:=(k:Int)+1) o o]
   refine ⟨⟨k+1,(zs.set (k+k0) (zs.getD (k+k0) 0+xs.getD k 0*2^r%18446744073709551616)).set (k+k0+1) (xs.getD k 0/2^(64-r)),rfl,o,gz0,(c.set ⟨o,O⟩).set ⟨L.1,gz0⟩,rfl,?_,?_,?_⟩,by simp only [iAt,aI];omega⟩
   ·rw [show k+1+k0+1=(k+k0+1)+1 from o,G7 o,G7 o,<- cX,q,bN]
    congr 1
   ·grind
   ·rw [show k+1+k0+1=(k+k0+1)+1 from o,E6 gz0,J4,E6 o,J4]
    simp only [aK,aX,List.length_singleton]
    rw [aJ (show k+k0<=zs.length from o),bF,G]
    rw [X] at y
    have ab:(2:Int)^s=b64^k0*2^r:=by
     rw [Ha,<- aW];congr 1;omega
    have V:b64^(k+k0)=b64^k*b64^k0:=aW _ _ _
    have H:=aO (xs.getD k 0) (2^(64-r))
    grind
  ·have d:k=xs.length:=o
   subst d
   rw [bZ,aN o] at y
   rw [<- a]
   refine R7 (Tm _ _ _ _ _) c (bI _) o ?_
   grind
def Ff{x:Int}{an s:Nat}(ma:Mw h A an x)(hl:an<=20000000000000)(hs:s<=1000000000000000)(hK:∀ A' m c' h',h.le h'->m<=c'->Mw h' A' m (x/2^s)->K (.slice A' m c') h'):aY prog 299 #[.slice A an ac,U s] h K:=by
 have O:=ma.nonneg dc
 have W:=ma.lt dc
 refine (fnk func299 [(6,[27],[],[I 0])]) ?_
 obtain ⟨k0,hk0⟩:∃ k0,k0=s/64:=⟨_,rfl⟩
 obtain ⟨r,hr⟩:∃ r,r=s%64:=⟨_,rfl⟩
 have N:C6 (dJ (s:Int) 64)=(k0:Int):=by
  rw [bC o,C3 o o];omega
 have y:B9 (k0:Int)=(k0:Int):=B5 o o
 have em:eP (s:Int) 64=(r:Int):=gz0
 have er:C6 ((64:Int)-(r:Int))=((64-r:Nat):Int):=by rw [C3 o o];omega
 have en:C6 (an:Int)=(an:Int):=C3 o o
 simp only [N,y,em,er,en,aC]
 have j:(2:Int)^s=b64^k0*2^r:=by
  rw [Ha,<- aW];grind
 refine B4 (fun h1=>?_) (fun h1=>?_)
 ·have:x/2^s=0:=by
   apply bL O
   rw [j]
   have F:=D5 (B:=b64) dc (show an<=k0 from o)
   have Q:b64^k0*1<=b64^k0*2^r:=aH (by have:0<(2:Int)^r:=bO dc;omega) (aQ (E9 dc _))
   omega
  rw [this] at hK
  exact hK _ _ _ _ (B0 _) (bI _) Mag.zero
 ·obtain ⟨xs,rfl,T,p,nx,rfl⟩:=ma
  have e1:B9 ((xs.length:Int)-k0)=((xs.length-k0:Nat):Int):=by rw [B5 o o];omega
  rw [e1]
  refine T6 Q6 o o o ?_
  intro b hb
  rw [aC]
  refine ⟨_,_,_,rfl,?_⟩
  have S:0<(2:Int)^r:=bO dc
  have g:=Ak (s:=r) o
  have M:0<(2:Int)^(64-r):=bO dc
  have ad:(xs.drop k0).length=xs.length-k0:=cC
  have c:∀ i,(xs.drop k0).getD i 0=xs.getD (k0+i) 0:=fun i=>B02
  refine ⟨fun l h'=>∃ (k:Nat) (zs:List Int),l=[I k]/\k<=xs.length-k0/\zs.length=xs.length-k0/\Dig b64 zs/\h'=blk .u64 194 h b zs/\2^r*val b64 (zs.take k)+(xs.drop k0).getD 0 0%2^r=val b64 ((xs.drop k0).take k)+b64^k*((xs.drop k0).getD k 0%2^r),fun l _=>xs.length-(iAt l 0).toNat,⟨0,_,rfl,o,by simp,P4 dc _,rfl,by simp [val]⟩,?_⟩
  rintro i ab ⟨k,zs,ah,hk,E,q,rfl,V⟩
  obtain rfl:i=(k:Int):=gz0
  have n:∀ zs,h.le (blk .u64 194 h b zs):=fun zs=>Wd (k:=.u64) (e:=194) hb zs
  have gz:=Q4 (p.drop k0) k
  refine B4 (fun h2=>?_) (fun h2=>?_)
  ·have e2:B9 ((k:Int)+k0)=((k0+k:Nat):Int):=by rw [B5 o o];omega
   have e3:B9 (((k0+k:Nat):Int)+1)=((k0+(k+1):Nat):Int):=by rw [B5 o o];omega
   rw [e2,e3]
   refine (T.mono (n zs)).load rfl o o ?_
   refine B4 (fun e=>absurd e o) (fun _=>?_)
   refine ⟨_,rfl,o,o,?_⟩
   simp only [aC]
   rw [<- c k,B1z (show r<=64 from o)]
   have d:0<=(xs.drop k0).getD k 0/2^r:=bX gz.1 o
   have w:(xs.drop k0).getD k 0/2^r<2^(64-r):=by
    apply bG S
    grind
   have R:(2:Int)^(64-r)<=18446744073709551616:=by
    rw [<- g]
    have:=aE (show 1<=(2:Int)^r from o) (aQ M);omega
   refine Ec (zs:=zs) (i:=k) F8 o ?_
   have d1:Dig b64 (zs.set k ((xs.drop k0).getD k 0/2^r)):=q.set ⟨d,gz0⟩
   have l1:(zs.set k ((xs.drop k0).getD k 0/2^r)).length=xs.length-k0:=gz0
   have g1:(zs.set k ((xs.drop k0).getD k 0/2^r)).getD k 0=(xs.drop k0).getD k 0/2^r:=gz0
   have vr:=C7 b64 (xs.drop k0) k
   have a:∀ z:Int,2^r*z=(xs.drop k0).getD k 0-(xs.drop k0).getD k 0%2^r+18446744073709551616*((xs.drop k0).getD (k+1) 0%2^r)->
    2^r*val b64 ((zs.set k z).take (k+1))+(xs.drop k0).getD 0 0%2^r=val b64 ((xs.drop k0).take (k+1))+b64^(k+1)*((xs.drop k0).getD (k+1) 0%2^r):=by
    intro z ez
    rw [E6 o,J4,aK,aJ o,vr,bF]
    grind
   have ae:=aO ((xs.drop k0).getD k 0) (2^r)
   have D:B9 ((k:Int)+1)=((k+1:Nat):Int):=by rw [B5 o o];omega
   rw [D]
   refine B4 (fun h3=>?_) (fun h3=>?_)
   ·have ld:=(Tm .u64 194 h b (zs.set k ((xs.drop k0).getD k 0/2^r)))
    obtain ⟨aa,H,af⟩:=SlV.at ld (i:=k) gz0
    refine ⟨aa,H,o,o,(xs.drop k0).getD k 0/2^r,?_,?_⟩
    ·grind
    refine (T.mono (n _)).load rfl o o ?_
    refine B4 (fun e=>absurd e o) (fun _=>?_)
    refine ⟨_,rfl,o,o,?_⟩
    simp only [aC]
    rw [<- c (k+1)]
    have gr:=Q4 (p.drop k0) (k+1)
    obtain ⟨o1,o2,o3⟩:=Vp (s:=64-r) o gr ⟨d,w⟩
    rw [aJ (show 64-r<=64 from o),J0,o1]
    refine Ec (zs:=zs.set k ((xs.drop k0).getD k 0/2^r)) (i:=k) F8 o ?_
    rw [List.set_set]
    have ag:=Dx ((xs.drop k0).getD (k+1) 0*2^(64-r))
    refine ⟨⟨k+1,zs.set k ((xs.drop k0).getD k 0/2^r+(xs.drop k0).getD (k+1) 0*2^(64-r)%18446744073709551616),rfl,o,gz0,q.set ⟨o,o2⟩,rfl,a _ ?_⟩,by simp only [iAt,aI];omega⟩
    rw [o3,show 64-(64-r)=r from o,dG,<- dE,g]
    omega
   ·have u:(xs.drop k0).getD (k+1) 0=0:=gz0
    refine ⟨⟨k+1,zs.set k ((xs.drop k0).getD k 0/2^r),rfl,o,l1,d1,rfl,a _ ?_⟩,by simp only [iAt,aI];omega⟩
    rw [u,fP,eC,eD];omega
  ·have C:k=xs.length-k0:=o
   subst C
   have u:(xs.drop k0).getD (xs.length-k0) 0=0:=gz0
   rw [u,fP,eC,eD,aN o,aN o] at V
   have G:=aT ((xs.drop k0).getD 0 0) (show (2:Int)^r≠0 from o)
   have L:=aL ((xs.drop k0).getD 0 0) S
   have ai:val b64 xs/2^s=val b64 zs:=by
    have X:=J6 b64 xs (i:=k0) o
    have F:=R9 dc (p.take k0)
    have Q:=C5 dc (p.take k0)
    rw [aK,aJ o] at F
    rw [j,<- dX (aQ (E9 dc _)),X,eM _ _ o,bL Q F,cQ,<- V,fA,eM _ _ o,bL G L,cQ]
   rw [<- E]
   refine R7 (Tm _ _ _ _ _) q (bI _) o ?_
   grind
end
def Cm(B:Int)(xs:List Int)(n:Nat):val B (xs++aF n 0)=val B xs:=by rw [H1,Dl];omega
def Mc{xs:List Int}{k:Nat}(h:fB xs)(hk:k<xs.length):fB (xs.drop k):=by
 unfold fB at *
 grind
def Mw.of{h:bJ}{A:Option bU}{xs:List Int}(s:SlI .u64 h A xs)(d:Dig b64 xs)(n:fB xs):Mw h A xs.length (val b64 xs):=⟨xs,rfl,s,d,n,rfl⟩
def Yx{k:cZ}{h:bJ}{A:Option bU}{xs:List Int}(s:SlI k h A xs){c l:Nat}(hl:l<=xs.length)(hc:xs.length<=c):SlI k h (U3 A c l 1) (xs.drop l):=by
 have:=s.cut (c:=c) (l:=l) (m:=xs.length) hl (bI _) hc
 rwa [aN gz0] at this
def Iw{k:cZ}{h:bJ}{A:Option bU}{xs:List Int}(s:SlI k h A xs){c m:Nat}(hm:m<=xs.length)(hc:xs.length<=c):SlI k h A (xs.take m):=by
 have:=s.cut (c:=c) (l:=0) (m:=m) o hm hc
 simpa [O7] using this
def Be{h:bJ}{K:VP}{A:Option bU}{ac n:Nat}{v:Int}{xs:List Int}(s:SlI .u64 h A xs)(hd:Dig b64 xs)(hn:n=xs.length)(hv:val b64 xs=v)(hc:n<=ac)(hl:n<=100000000000000)(hK:∀ m,m<=n->Mw h A m v->K (.slice A m ac) h):aY prog 192 #[.slice A n ac] h K:=by
 subst hn hv
 exact R7 s hd hc hl hK
def C32(N:Nat):Prop:=∀ {h:bJ} {K:VP} {A B:Option bU} {ac bc an bn:Nat} {x y:Int},an+bn<=N->Mw h A an x->Mw h B bn y->an<=ac->bn<=bc->an<=10000000000000->bn<=10000000000000->
 (∀ A' m c' h',h.le h'->m<=c'->Mw h' A' m (x*y)->K (.slice A' m c') h')->aY prog 166 #[.slice A an ac,.slice B bn bc] h K
section
variable {h g:bJ} {K:VP} {A B:Option bU} {ac bc:Nat}
def C06{xs ys:List Int}{b:Nat}(hb:h b=none)(sx:SlI .u64 h A xs)(dx:Dig b64 xs)(sy:SlI .u64 h B ys)(dy:Dig b64 ys)(hl:xs.length<=10000000000000)(hl2:ys.length<=10000000000000)
 (hK:∀ A' m c' h',h.le h'->m<=c'->Mw h' A' m (val b64 xs*val b64 ys)->K (.slice A' m c') h'):
 Ej prog K A xs.length ac B ys.length (some ⟨b,0,none⟩) (xs.length+ys.length) (xs.length+ys.length) (blk .u64 194 h b (aF (xs.length+ys.length) 0)):=by
 refine ⟨fun l y=>∃ (k:Nat) (zs:List Int),l=[I k]/\k<=ys.length/\zs.length=xs.length+ys.length/\Dig b64 zs/\Win .u64 y h b 194 (some ⟨b,0,none⟩) [] zs []/\zs.drop (k+xs.length)=aF (ys.length-k) 0/\val b64 (zs.take (k+xs.length))=val b64 xs*val b64 (ys.take k),fun l _=>ys.length-(iAt l 0).toNat,⟨0,_,rfl,o,by simp,P4 dc _,Win.blk .u64 194 hb _,?_,?_⟩,?_⟩
 ·grind
 ·rw [cT,Dl];simp [val]
 rintro i y ⟨k,zs,Q,T,q,d,w,r,z⟩
 obtain rfl:i=(k:Int):=gz0
 refine B4 (fun F=>?_) (fun F=>?_)
 ·have G:=Q4 dy k
  have M:=C7 b64 ys k
  have O:B9 ((k:Int)+xs.length)=((k+xs.length:Nat):Int):=by rw [B5 o o];omega
  rw [O]
  refine (sy.mono w.le).load rfl o o ?_
  refine ⟨⟨o,o⟩,⟨o,o⟩,?_⟩
  have g:((zs.drop k).take (k+xs.length-k)).length=xs.length:=gz0
  refine Hz (w.sub (l:=k) (m:=k+xs.length) (c:=xs.length+ys.length) o o o) o sx rfl ((d.drop k).take _) dx g G o ?_
  intro e c h' x a S E D
  have R:=w.whole (l:=k) (m:=k+xs.length) o o o D
  refine ⟨_,rfl,_,rfl,o,o,?_⟩
  have L:(zs.take k++e++zs.drop (k+xs.length)).length=xs.length+ys.length:=by
   grind
  refine R.storeN (i:=k+xs.length) F8 rfl o ?_
  intro V C
  rw [B5 (n:=(k:Int)+1) o o]
  have j:(zs.take k++e++zs.drop (k+xs.length)).take (k+xs.length)=zs.take k++e:=by
   grind
  have s:(zs.take k++e++zs.drop (k+xs.length)).drop (k+xs.length)=zs.drop (k+xs.length):=by
   grind
  refine ⟨⟨k+1,_,rfl,o,gz0,(((d.take k).append a).append (d.drop _)).set S,C,?_,?_⟩,by simp only [iAt,aI];omega⟩
  ·rw [show k+1+xs.length=(k+xs.length)+1 from o,G7 o,<- cX,s,r,bN]
   congr 1
  ·rw [show k+1+xs.length=(k+xs.length)+1 from o,E6 o,j,J4,H1,M]
   simp only [aX,aK]
   have H:val b64 (zs.take (k+xs.length))=val b64 (zs.take k)+b64^k*val b64 ((zs.drop k).take (k+xs.length-k)):=by
    rw [show k+xs.length-k=xs.length from o,List.take_add,H1,aK,aJ o]
   grind
 ·have p:k=ys.length:=o
  subst p
  rw [bZ,aN o] at z
  rw [<- q]
  refine R7 w.sl d (bI _) o ?_
  intro m N u
  rw [z] at u
  exact ⟨_,_,_,rfl,hK _ _ _ _ w.le N u⟩
def Of{x y:Int}{an bn N:Nat}(ih:C32 N)(hN:2*bn<=N)(ma:Mw h A an x)(mb:Mw h B bn y)(ha:an<=ac)(hbc:bn<=bc)(hl:an<=10000000000000)(hb0:0<bn)(hba:bn<=an)(hK:∀ A' m c' h',h.le h'->m<=c'->Mw h' A' m (x*y)->K (.slice A' m c') h'):aY prog 232 #[.slice A an ac,.slice B bn bc] h K:=by
 have ab:=mb.nonneg dc
 have D:=mb.lt dc
 obtain ⟨xs,rfl,sx,L,nx,rfl⟩:=ma
 refine (fnk func232 [(3,[6],[],[I 0])] (os:=[(6,[0,1,2,3,4,5,6,8,7,9,10])]) (wr:=[235])) ?_
 have e1:B9 ((xs.length:Int)+bn)=((xs.length+bn:Nat):Int):=by rw [B5 oo oo];omega
 rw [e1]
 refine T6 Q6 oo oo oo ?_
 intro b hb
 rw [aC]
 refine ⟨_,_,_,rfl,?_⟩
 refine ⟨fun l F=>∃ (k:Nat) (zs:List Int) (g:bJ),l=[I k]/\k<=xs.length+bn/\h.le g/\zs.length=xs.length+bn/\Dig b64 zs/\Win .u64 F g b 194 (some ⟨b,0,none⟩) [] zs []/\val b64 zs=val b64 (xs.take k)*y,fun l _=>xs.length+bn-(iAt l 0).toNat,⟨0,_,h,rfl,oo,B0 h,by simp,P4 dc _,Win.blk .u64 194 hb _,by rw [Dl];simp [val]⟩,?_⟩
 rintro i F ⟨k,zs,g,ar,hk,H,V,s,w,hv⟩
 obtain rfl:i=(k:Int):=gz0
 refine B4 (fun h1=>?_) (fun h1=>?_)
 ·have e2:B9 ((k:Int)+bn)=((k+bn:Nat):Int):=by rw [B5 oo oo];omega
  rw [e2]
  obtain ⟨en,hen⟩:∃ en,en=min xs.length (k+bn):=⟨_,rfl⟩
  have e3:(if (xs.length:Int)<((k+bn:Nat):Int) then (xs.length:Int) else ((k+bn:Nat):Int))=(en:Int):=oo
  rw [e3]
  simp only [aC]
  refine ⟨⟨oo,oo⟩,⟨oo,oo⟩,⟨oo,oo⟩,?_⟩
  have ai:((xs.drop k).take (en-k)).length=en-k:=gz0
  have sp:SlI .u64 g (U3 A ac k 1) ((xs.drop k).take (en-k)):=(sx.mono H).cut (c:=ac) (l:=k) (m:=en) oo oo ha
  have dp:Dig b64 ((xs.drop k).take (en-k)):=(L.drop k).take _
  have aq:=C5 dc L
  have z:∀ m,m<=en-k->fB (((xs.drop k).take (en-k)).take m)->val b64 (((xs.drop k).take (en-k)).take m)=val b64 ((xs.drop k).take (en-k))->
   aY prog 166 #[.slice (U3 A ac k 1) m (ac-k),.slice B bn bc] F (fun M a=>∃ (t38A:Option bU) (t38n:Nat) (t38c:Nat),M= .slice t38A t38n t38c/\Heap.le F a/\aY prog 235 #[.slice (U3 (some ⟨b,0,none⟩) (xs.length+bn) k 1) (xs.length+bn-k) (xs.length+bn-k),.slice t38A t38n t38c] a (fun r2 p=>r2= .tuple #[]/\(∃ (k_1:Nat) (zs:List Int) (g:bJ),[I ((k+bn:Nat):Int)]=[I k_1]/\k_1<=xs.length+bn/\h.le g/\zs.length=xs.length+bn/\Dig b64 zs/\Win .u64 p g b 194 (some ⟨b,0,none⟩) [] zs []/\val b64 zs=val b64 (xs.take k_1)*y)/\xs.length+bn-(iAt [I ((k+bn:Nat):Int)] 0).toNat<xs.length+bn-(iAt [I k] 0).toNat)):=by
   intro m hm q e
   have Mp:Mw g (U3 A ac k 1) m (val b64 ((xs.drop k).take (en-k))):=⟨((xs.drop k).take (en-k)).take m,gz0,Iw sp (c:=ac) oo oo,dp.take m,q,e⟩
   refine w.call ?_
   refine ih oo Mp (mb.mono H) oo hbc oo oo ?_
   intro A' m' c' g2 l2 al M2 h3 O
   refine ⟨_,_,_,rfl,?_,?_⟩
   ·rw [w.eq,O.eq]
    intro kk o d
    by_cases G:kk=b
    ·subst G;rw [B8] at d ⊢;exact d
    ·rw [B6 _ _ G] at d ⊢;exact l2 kk o d
   obtain ⟨ps,u,C,E,T,am⟩:=M2
   have ap:=J6 b64 zs (i:=k) oo
   have ah:=C5 dc (s.take k)
   have Q:xs.take en=xs.take k++(xs.drop k).take (en-k):=by
    have:=List.take_add (l:=xs) (i:=k) (j:=en-k)
    rwa [show k+(en-k)=en from oo] at this
   have ag:val b64 (xs.take en)=val b64 (xs.take k)+b64^k*val b64 ((xs.drop k).take (en-k)):=by
    rw [Q,H1,aK,aJ oo]
   have ad:val b64 zs+b64^k*val b64 ps=val b64 (xs.take en)*y:=by
    grind
   have aj:val b64 (xs.take en)*y<b64^(xs.length+bn):=by
    have t1:=R9 dc (L.take en)
    have t2:=C5 dc (L.take en)
    rw [aK,aJ oo] at t1
    have t3:val b64 (xs.take en)*y<=b64^en*y:=aE oo ab
    have t4:b64^en*y<b64^en*b64^bn:=bY D (E9 dc en)
    rw [<- aW] at t4
    have t5:=D5 (B:=b64) dc (show en+bn<=xs.length+bn from oo)
    omega
   have ae:val b64 (zs.drop k)+val b64 ps<b64^(xs.length+bn-k):=by
    have e5:b64^(xs.length+bn)=b64^k*b64^(xs.length+bn-k):=by rw [<- aW];simp_all
    by_cases hc:val b64 (zs.drop k)+val b64 ps<b64^(xs.length+bn-k)
    ·exact hc
    ·have:=aH (show b64^(xs.length+bn-k)<=val b64 (zs.drop k)+val b64 ps from oo) (aQ (E9 (B:=b64) dc k))
     grind
   have af:=C5 dc (s.drop k)
   have ao:ps.length<=xs.length+bn-k:=by
    have Mps:Mw g2 A' ps.length (val b64 ps):=⟨ps,rfl,C,E,T,rfl⟩
    exact Mps.len_le dc oo
   have ws:=O.sub (l:=k) (m:=xs.length+bn) (c:=xs.length+bn) oo oo oo
   have aa:(zs.drop k).take (xs.length+bn-k)=zs.drop k:=aN gz0
   have R:(zs.drop k).length=xs.length+bn-k:=gz0
   rw [aa] at ws
   refine Ib ws R.symm C u (s.drop k) E oo gz0 oo ?_
   intro us h5 ak W X w5
   have w6:=O.whole (l:=k) (m:=xs.length+bn) oo oo oo w5
   refine ⟨rfl,⟨k+bn,_,g2,rfl,oo,A0 H l2,?_,((s.take k).append W).append (s.drop _),w6,?_⟩,by simp only [iAt,aI];omega⟩
   ·grind
   ·rw [aZ oo,cD,H1,aK,aJ oo,X]
    grind
  have tr:=Dk (K:=fun r n=>∃ (t36A:Option bU) (t36n:Nat) (t36c:Nat),r= .slice t36A t36n t36c/\Heap.le F n/\aY prog 166 #[.slice t36A t36n t36c,.slice B bn bc] n (fun M a=>∃ (t38A:Option bU) (t38n:Nat) (t38c:Nat),M= .slice t38A t38n t38c/\Heap.le n a/\aY prog 235 #[.slice (U3 (some ⟨b,0,none⟩) (xs.length+bn) k 1) (xs.length+bn-k) (xs.length+bn-k),.slice t38A t38n t38c] a (fun r2 p=>r2= .tuple #[]/\(∃ (k_1:Nat) (zs:List Int) (g:bJ),[I ((k+bn:Nat):Int)]=[I k_1]/\k_1<=xs.length+bn/\h.le g/\zs.length=xs.length+bn/\Dig b64 zs/\Win .u64 p g b 194 (some ⟨b,0,none⟩) [] zs []/\val b64 zs=val b64 (xs.take k_1)*y)/\xs.length+bn-(iAt [I ((k+bn:Nat):Int)] 0).toNat<xs.length+bn-(iAt [I k] 0).toNat))) (ac:=ac-k) (sp.mono w.le) oo oo (fun m hm q e=>⟨_,_,_,rfl,B0 _,z m oo q e⟩)
  grind
 ·have S:xs.take k=xs:=aN oo
  rw [S] at hv
  rw [<- V]
  refine R7 w.sl s (bI _) oo ?_
  intro m hm hM
  rw [hv] at hM
  exact ⟨_,_,_,rfl,hK _ _ _ _ (A0 H w.le) hm hM⟩
def C68{X0 X1 Y0 Y1 P:Int}(hx0:0<=X0)(hx1:0<=X1)(hy0:0<=Y0)(hy1:0<=Y1):
 X0*Y0<=(X0+X1)*(Y0+Y1)/\X1*Y1<=(X0+X1)*(Y0+Y1)-X0*Y0/\(X0+P*X1)*(Y0+P*Y1)=X0*Y0+P*((X0+X1)*(Y0+Y1)-X0*Y0-X1*Y1)+P*P*(X1*Y1):=by
 have b:=aR hx0 hy1
 have c:=aR hx1 hy0
 have d:=aR hx1 hy1
 grind
def C4t:∀ N,C32 N:=by
 intro N
 induction N with
 | zero=>
  intro h K A B ac bc an bn x y hN ma mb ha hb hl F D
  have h0:=ma.len_zero dc
  have hx:x=0:=h0.2 o
  subst hx
  rw [dY] at D
  refine Ei _ _ _ _ _ _ ?_
  unfold Dh
  refine ⟨fun l h'=>h'=h/\l=[.slice A an ac,.slice B bn bc],B4 (fun e=>absurd e o) (fun _=>⟨rfl,rfl⟩),?_⟩
  rintro A1 u c1 B1 w c2 hp ⟨rfl,hl⟩
  obtain ⟨⟨rfl,rfl,rfl⟩,rfl,rfl,rfl⟩:(A1=A/\u=an/\c1=ac)/\B1=B/\w=bn/\c2=bc:=gz0
  refine C8 (fun _=>D none 0 0 _ (B0 _) (bI _) Mag.zero) (fun e=>absurd o e)
 | succ N ih=>
  intro h K A B ac bc an bn x y hN ma mb ha hb hl F D
  refine Ei _ _ _ _ _ _ ?_
  unfold Dh
  refine ⟨fun l h'=>h'=h/\∃ (A1 B1:Option bU) (u w c1 c2:Nat) (x1 y1:Int),l=[.slice A1 u c1,.slice B1 w c2]/\Mw h A1 u x1/\Mw h B1 w y1/\w<=u/\u<=10000000000000/\u<=c1/\w<=c2/\u+w<=N+1/\x1*y1=x*y,B4 (fun h1=>?_) (fun h1=>?_),?_⟩
  ·grind
  ·grind
  clear ma mb ha hb hl F hN
  rintro A1 u c1 B1 w c2 hp ⟨rfl,A1',B1',a9,ba,bz,be,x1,y1,bw,m1,m2,hn,ak,M,T,cl,ap⟩
  obtain ⟨⟨rfl,rfl,rfl⟩,rfl,rfl,rfl⟩:(A1=A1'/\u=a9/\c1=bz)/\B1=B1'/\w=ba/\c2=be:=gz0
  rw [<- ap] at D
  clear bw ap
  have hz:=m2.len_zero dc
  refine C8 (fun h0=>?_) (fun h0=>?_)
  ·have:y1=0:=hz.2 o
   subst this
   rw [eC] at D
   exact D none 0 0 _ (B0 _) (bI _) Mag.zero
  ·refine ⟨fun l h'=>∃ t:Bool,h'=hp/\l=[.bool t]/\(t=true->y1=1),C8 (fun h1=>?_) (fun h1=>⟨false,rfl,rfl,fun e=>by cases e⟩),?_⟩
   ·obtain ⟨g,b0,sy,dy,ny,bm⟩:=m2
    refine sy.load b0 o o ⟨_,rfl,rfl,fun e=>?_⟩
    have e1:g.getD 0 0=1:=gz0
    obtain ⟨d,rfl⟩:∃ d,g=[d]:=by
     cases g with
     | nil=>grind
     | cons d r=>
      grind
    rw [<- bm,Er];assumption
   rintro tb aa ⟨t',rfl,F,O⟩
   obtain rfl:tb=t':=gz0
   refine Br.of (fun e=>?_) (fun _=>?_)
   ·rw [O e,Int.mul_one] at D
    exact D _ _ _ _ (B0 _) M m1
   clear O F
   have eL:B9 ((u:Int)+w)=((u+w:Nat):Int):=by rw [B5 o o];omega
   refine B4 (fun h2=>?_) (fun h2=>?_)
   ·obtain ⟨xs,rfl,sx,V,nx,rfl⟩:=m1
    obtain ⟨g,rfl,sy,dy,ny,rfl⟩:=m2
    rw [eL]
    refine T6 Q6 o o o ?_
    intro b hb
    rw [aC]
    exact ⟨_,_,_,rfl,C06 hb sx V sy dy ak o D⟩
   ·obtain ⟨H,hH⟩:∃ H,H=(u+1)/2:=⟨_,rfl⟩
    have eH:B9 (dJ (B9 ((u:Int)+1)) 2)=(H:Int):=by
     rw [B5 (n:=(u:Int)+1) o o,bC o,B5 o o];omega
    have bg:B9 ((2:Int)*(H:Int))=((2*H:Nat):Int):=by rw [B5 o o];omega
    simp only [eH,eL,bg,aC]
    refine B4 (fun h3=>?_) (fun h3=>?_)
    ·refine Of ih o m1 m2 M T ak o o ?_
     grind
    ·have a8:=m1.nonneg dc
     have a3:=m1.lt dc
     have ay:=m2.lt dc
     have bx:=m2.nonneg dc
     obtain ⟨xs,rfl,sx,V,nx,rfl⟩:=m1
     obtain ⟨g,rfl,sy,dy,ny,rfl⟩:=m2
     have bl:H<xs.length:=o
     have a6:H<g.length:=o
     have af:=C5 dc (V.take H)
     have ar:=C5 dc (V.drop H)
     have al:=C5 dc (dy.take H)
     have a1:=C5 dc (dy.drop H)
     have b3:=J6 b64 xs (i:=H) o
     have bq:=J6 b64 g (i:=H) o
     have ad:=R9 dc (V.take H)
     have av:=R9 dc (dy.take H)
     rw [aK,aJ o] at ad av
     have C:Mw aa (U3 A1 c1 H 1) (xs.length-H) (val b64 (xs.drop H)):=by
      have:=Mw.of (Yx sx (c:=c1) (l:=H) o M) (V.drop H) (Mc nx bl)
      grind
     have z:Mw aa (U3 B1 c2 H 1) (g.length-H) (val b64 (g.drop H)):=by
      have:=Mw.of (Yx sy (c:=c2) (l:=H) o T) (dy.drop H) (Mc ny a6)
      grind
     obtain ⟨ka,kb,kc⟩:=C68 (P:=b64^H) af ar al a1
     rw [<- b3,<- bq] at kc
     generalize hX0:val b64 (xs.take H)=X0 at *
     generalize hX1:val b64 (xs.drop H)=X1 at *
     generalize hY0:val b64 (g.take H)=Y0 at *
     generalize hY1:val b64 (g.drop H)=Y1 at *
     rw [O7,O7,cH,cH,cH]
     refine ⟨⟨o,o⟩,⟨o,o⟩,?_⟩
     refine Be (Iw sx (c:=c1) (m:=H) o M) (V.take H) gz0 hX0 o o ?_
     intro mx cr MX0
     refine ⟨_,_,_,rfl,B0 _,⟨o,o⟩,⟨o,o⟩,?_⟩
     refine Be (Iw sy (c:=c2) (m:=H) o T) (dy.take H) gz0 hY0 o o ?_
     intro my ch MY0
     refine ⟨_,_,_,rfl,B0 _,?_⟩
     refine ih o MX0 MY0 o o o o ?_
     intro A3 n3 c3 g3 l3 k3 M3
     refine ⟨_,_,_,rfl,?_⟩
     refine ih o (C.mono l3) (z.mono l3) o o o o ?_
     intro A4 n4 c4 g4 l4 k4 M4
     refine ⟨_,_,_,rfl,?_⟩
     have E:=A0 l3 l4
     refine T9 (MX0.mono E) (C.mono E) o o o o ?_
     intro A5 n5 c5 g5 l5 k5 M5
     refine ⟨_,_,_,rfl,?_⟩
     have aq:=A0 E l5
     refine T9 (MY0.mono aq) (z.mono aq) o o o o ?_
     intro A6 n6 c6 g6 l6 k6 M6
     refine ⟨_,_,_,rfl,?_⟩
     have ae:=C.lt dc
     have ag:=z.lt dc
     have bv:=E9 (B:=b64) dc H
     have b5:b64^(H+1)=b64^H*18446744073709551616:=bF _ _
     have ce:n5<=H+1:=by
      refine M5.len_le dc ?_
      have:=D5 (B:=b64) dc (show xs.length-H<=H from o)
      omega
     have b9:n6<=H+1:=by
      refine M6.len_le dc ?_
      have:=D5 (B:=b64) dc (show g.length-H<=H from o)
      omega
     refine ih o (M5.mono l6) M6 k5 k6 o o ?_
     intro A7 n7 c7 g7 l7 k7 M7
     refine ⟨_,_,_,rfl,?_⟩
     have S:=A0 (A0 l5 l6) l7
     have k:∀ {p q:Int} {i j:Nat},0<=p->p<b64^i->0<=q->q<b64^j->p*q<b64^(i+j):=by
      intro p q i j a b c d
      rw [aW]
      have t1:p*q<=b64^i*q:=aE o c
      have t2:b64^i*q<b64^i*b64^j:=bY d (E9 dc i)
      omega
     have b6:n7<=n5+n6:=M7.len_le dc (k (M5.nonneg dc) (M5.lt dc) (M6.nonneg dc) (M6.lt dc))
     refine I5 M7 (M3.mono (A0 l4 S)) k7 o ka ?_
     intro A8 n8 c8 g8 l8 k8 M8
     refine ⟨_,_,_,rfl,?_⟩
     have b8:n8<=n7:=M8.len_le dc (by have:=M7.lt dc;have:=M3.nonneg dc;omega)
     refine I5 M8 (M4.mono (A0 S l8)) k8 o kb ?_
     intro A9 n9 c9 g9 l9 k9 M9
     refine ⟨_,_,_,rfl,?_⟩
     have R:=A0 S (A0 l8 l9)
     have az:aa.le g9:=A0 E R
     refine T6 Q6 o o o ?_
     intro b hb
     rw [aC]
     refine ⟨_,_,_,rfl,?_⟩
     have w0:=Win.blk .u64 194 hb (aF (xs.length+g.length) 0)
     have cc:n3<=H+H:=M3.len_le dc (k af ad al av)
     have cd:n4<=(xs.length-H)+(g.length-H):=M4.len_le dc (k ar ae a1 ag)
     obtain ⟨s,aj,bk,a5,cu,ah⟩:=M3.mono (A0 l4 R)
     obtain ⟨hi,ai,bf,br,ct,am⟩:=M4.mono R
     obtain ⟨Q,au,ax,a2,bu,b7⟩:=M9
     refine Cc Q6 w0 (by simp) (bk.mono w0.le) aj (by simp;omega) ?_
     intro cn X
     refine ⟨_,rfl,⟨o,o⟩,?_⟩
     have b2:s++(aF (xs.length+g.length) (0:Int)).drop s.length=s++aF (xs.length+g.length-s.length) 0:=by rw [bN]
     rw [b2] at X
     have W:=X.sub (l:=2*H) (m:=xs.length+g.length) (c:=xs.length+g.length) o (by simp;omega) (by simp;omega)
     have bp:((s++aF (xs.length+g.length-s.length) (0:Int)).drop (2*H)).take (xs.length+g.length-2*H)=aF (xs.length+g.length-2*H) 0:=by
      rw [fE,aZ o,cM,bN,cT]
      congr 1;omega
     rw [bp] at W
     refine Cc Q6 W (by simp) (bf.mono W.le) ai (by simp;omega) ?_
     intro cq a4
     refine ⟨_,rfl,⟨o,o⟩,?_⟩
     rw [bN] at a4
     have G:=X.whole (l:=2*H) (m:=xs.length+g.length) o (by simp;omega) (by simp;omega) a4
     have a7:(s++aF (xs.length+g.length-s.length) (0:Int)).take (2*H)=s++aF (2*H-s.length) 0:=by
      rw [List.take_append,aN o,cT]
      congr 2;omega
     have b4:(s++aF (xs.length+g.length-s.length) (0:Int)).drop (xs.length+g.length)=[]:=by
      apply aZ;simp;omega
     rw [a7,b4,cD] at G
     generalize hzs:s++aF (2*H-s.length) (0:Int)++(hi++aF (xs.length+g.length-2*H-hi.length) 0)=zs at G
     have cj:zs.length=xs.length+g.length:=by
      rw [<- hzs];simp;omega
     have L:Dig b64 zs:=by
      rw [<- hzs]
      exact (a5.append (P4 dc _)).append (br.append (P4 dc _))
     have ck:val b64 zs=X0*Y0+b64^H*b64^H*(X1*Y1):=by
      rw [<- hzs,H1,Cm,Cm,ah,am]
      have:(s++aF (2*H-s.length) (0:Int)).length=H+H:=by simp;omega
      rw [this,aW]
     have a0:=G.sub (l:=H) (m:=xs.length+g.length) (c:=xs.length+g.length) o o o
     have bd:(zs.drop H).take (xs.length+g.length-H)=zs.drop H:=aN (by rw [cC];omega)
     have bb:(zs.drop H).length=xs.length+g.length-H:=by rw [cC];omega
     rw [bd] at a0
     have bt:=J6 b64 zs (i:=H) o
     have cm:=C5 dc (L.take H)
     have cb:=C5 dc (L.drop H)
     have cg:val b64 xs*val b64 g<b64^(xs.length+g.length):=k a8 a3 bx ay
     have ao:val b64 zs+b64^H*val b64 Q=val b64 xs*val b64 g:=gz0
     have ca:val b64 (zs.drop H)+val b64 Q<b64^(xs.length+g.length-H):=by
      have e5:b64^(xs.length+g.length)=b64^H*b64^(xs.length+g.length-H):=by rw [<- aW];congr 1;omega
      by_cases hc:val b64 (zs.drop H)+val b64 Q<b64^(xs.length+g.length-H)
      ·exact hc
      ·have:=aH (show b64^(xs.length+g.length-H)<=val b64 (zs.drop H)+val b64 Q from o) (aQ bv)
       grind
     have co:Q.length<=xs.length+g.length-H:=by
      have Mmi:Mw g9 A9 Q.length (val b64 Q):=⟨Q,rfl,ax,a2,bu,rfl⟩
      exact Mmi.len_le dc o
     refine Ib a0 bb.symm ax au (L.drop H) a2 o gz0 o ?_
     intro us ci cs bo bj bh
     refine ⟨rfl,?_⟩
     have ab:=G.whole (l:=H) (m:=xs.length+g.length) o o o bh
     rw [aZ (show zs.length<=xs.length+g.length from o),cD] at ab
     have bi:(zs.take H++us).length=xs.length+g.length:=by
      simp only [aX,aK];omega
     rw [<- bi]
     refine R7 ab.sl ((L.take H).append bo) o o ?_
     intro m hm hM
     have b1:val b64 (zs.take H++us)=val b64 xs*val b64 g:=by
      rw [H1,aK,aJ o,bj,<- ao,bt];grind
     rw [b1] at hM
     exact ⟨_,_,_,rfl,D _ _ _ _ (A0 az ab.le) hm hM⟩
def F4{x y:Int}{an bn:Nat}(ma:Mw h A an x)(mb:Mw h B bn y)(ha:an<=ac)(hb:bn<=bc)(hl:an<=10000000000000)(hl2:bn<=10000000000000)(hK:∀ A' m c' h',h.le h'->m<=c'->Mw h' A' m (x*y)->K (.slice A' m c') h'):aY prog 166 #[.slice A an ac,.slice B bn bc] h K:=
 C4t _ (bI _) ma mb ha hb hl hl2 hK
end
section
variable {h g:bJ} {K:VP} {A B:Option bU} {ac bc:Nat}
def B0u{hi lo y:Int}(hhi:0<=hi/\hi<y)(hlo:0<=lo/\lo<18446744073709551616)(hy:y<18446744073709551616)
 (hK:K (.tuple #[U ((hi*18446744073709551616+lo)/y),U ((hi*18446744073709551616+lo)%y)]) h):aY prog 256 #[U hi,U lo,U y] h K:=by
 obtain ⟨n,rfl⟩:∃ n:Nat,y=n:=⟨y.toNat,o⟩
 exact Rh hhi hlo o hK
def Te{x:Int}{an w:Nat}(ma:Mw h A an x)(hw:0<w/\w<18446744073709551616)(hl:an<=20000000000000)(hK:∀ A' m c' h',h.le h'->m<=c'->m<=an->Mw h' A' m (x/w)->K (.tuple #[.slice A' m c',U (x%w)]) h'):aY prog 300 #[.slice A an ac,U w] h K:=by
 obtain ⟨xs,rfl,B,F,N,rfl⟩:=ma
 refine (fnk func300 [(4,[7,8],[],[U 0,I 0])]) ?_
 refine T6 Q6 o o o ?_
 intro b u
 refine ⟨_,_,_,rfl,?_⟩
 refine ⟨fun l h'=>∃ (k:Nat) (r:Int) (zs:List Int),l=[U r,I ((k:Int)-1)]/\k<=xs.length/\zs.length=xs.length/\Dig b64 zs/\(0<=r/\r<w)/\h'=blk .u64 194 h b zs/\val b64 (xs.drop k)=val b64 (zs.drop k)*w+r,fun l _=>(iAt l 1+1).toNat,⟨xs.length,0,_,by rw [B5 o o],o,by simp,P4 dc _,o,rfl,by simp [val]⟩,?_⟩
 rintro r i L ⟨k,s,zs,D,H,g,p,a,rfl,c⟩
 obtain ⟨rfl,rfl⟩:r=s/\i=(k:Int)-1:=gz0
 have n:=Wd (k:=.u64) (e:=194) u zs
 refine B4 (fun z=>?_) (fun z=>?_)
 ·obtain ⟨j,rfl⟩:∃ j,k=j+1:=⟨k-1,o⟩
  have e:((j+1:Nat):Int)-1=(j:Int):=o
  rw [e]
  have C:=Q4 F j
  refine (B.mono n).load rfl o o ?_
  refine Rh a C hw.2 ⟨_,_,rfl,?_⟩
  have y:0<=r*18446744073709551616+xs.getD j 0:=o
  have q:0<=(r*18446744073709551616+xs.getD j 0)/w/\(r*18446744073709551616+xs.getD j 0)/w<18446744073709551616:=by
   constructor
   ·exact bX y o
   ·apply bG o
    omega
  refine ⟨_,rfl,o,o,?_⟩
  refine Ec (zs:=zs) (i:=j) F8 o ?_
  rw [B5 o o]
  refine ⟨⟨j,_,zs.set j ((r*18446744073709551616+xs.getD j 0)/w),rfl,o,gz0,p.set q,⟨aT _ o,aL _ o⟩,rfl,?_⟩,by simp only [iAt,aI,aP];omega⟩
  rw [Fc o,Ra b64 o,c]
  have:=aO (r*18446744073709551616+xs.getD j 0) w
  simp only [val]
  grind
 ·have d:k=0:=o
  subst d
  rw [fM,fM] at c
  rw [<- g]
  refine R7 (Tm _ _ _ _ _) p (bI _) o ?_
  intro m M G
  have q:val b64 xs/w=val b64 zs:=by
   rw [c,fA,eE _ _ o,bL a.1 a.2,cQ]
  have E:val b64 xs%w=r:=by
   rw [c,fA,fK,eZ a.1 a.2]
  grind
def Lr{x:Int}{an w:Nat}(ma:Mw h A an x)(hw:0<w/\w<18446744073709551616)(hl:an<=20000000000000)(hK:K (U (x%w)) h):aY prog 194 #[.slice A an ac,U w] h K:=by
 obtain ⟨xs,rfl,s,q,B,rfl⟩:=ma
 refine (fnk func194 [(3,[5,6],[],[U 0,I 0])]) ?_
 refine ⟨fun l d=>∃ (k:Nat) (r:Int) (Q:Int),l=[U r,I ((k:Int)-1)]/\k<=xs.length/\(0<=r/\r<w)/\d=h/\val b64 (xs.drop k)=Q*w+r,fun l _=>(iAt l 1+1).toNat,⟨xs.length,0,0,by rw [B5 o o],o,o,rfl,by simp [val]⟩,?_⟩
 rintro r i y ⟨k,g,Q,n,z,c,rfl,a⟩
 obtain ⟨rfl,rfl⟩:r=g/\i=(k:Int)-1:=gz0
 refine B4 (fun m=>?_) (fun m=>?_)
 ·obtain ⟨j,rfl⟩:∃ j,k=j+1:=⟨k-1,o⟩
  have e:((j+1:Nat):Int)-1=(j:Int):=o
  rw [e]
  have u:=Q4 q j
  refine s.load rfl o o ?_
  refine Rh c u hw.2 ⟨_,_,rfl,?_⟩
  rw [B5 o o]
  refine ⟨⟨j,_,b64*Q+(r*18446744073709551616+xs.getD j 0)/w,rfl,o,⟨aT _ o,aL _ o⟩,rfl,?_⟩,by simp only [iAt,aI,aP];omega⟩
  rw [Ra b64 o,a]
  have:=aO (r*18446744073709551616+xs.getD j 0) w
  grind
 ·have b:k=0:=o
  subst b
  rw [fM] at a
  have p:val b64 xs%w=r:=by
   rw [a,fA,fK,eZ c.1 c.2]
  grind
def Yr{us vs:List Int}{m wn dn:Nat}{X Y:Int}(su:SlI .u64 h A us)(sv:SlI .u64 h B vs)(hwn:wn=us.length)(hdn:dn=vs.length)(du:Dig b64 us)(dv:Dig b64 vs)(hu:us.length=m+3)(hv:vs.length=m+2)(hl:m<=100000000000000)(h1:b64<=2*vs.getD (m+1) 0)(hX:val b64 us=X)(hY:val b64 vs=Y)(hlt:X<Y*b64)
 (hK:∀ q,0<=q->q<18446744073709551616->X<(q+1)*Y->(q-1)*Y<=X->K (U q) h):aY prog 301 #[.slice A wn ac,.slice B dn bc] h K:=by
 subst hwn hdn
 have a:=C2a (B:=b64) dc du dv hu hv h1 gz0
 rw [hX,hY] at a
 have gu:=Q4 du (m+2)
 have x:=Q4 du (m+1)
 have F:=Q4 dv (m+1)
 have p:=a.v2r
 have G:=a.u2r
 refine (fnk func301 [(6,[8,9],[],[U 0,U 0])]) ?_
 have e1:B9 ((vs.length:Int)-1)=((m+1:Nat):Int):=by rw [B5 o o];omega
 have V:B9 ((vs.length:Int)-2)=(m:Int):=by rw [B5 o o];omega
 have e3:((vs.length:Nat):Int)=((m+2:Nat):Int):=o
 rw [e1,V,e3]
 refine sv.load o o o ?_
 refine sv.load o o o ?_
 refine su.load rfl o o ?_
 simp only [aC]
 refine B4 (fun E=>?_) (fun E=>?_)
 ·have ht:=a.top (by
   grind)
  grind
 ·refine su.load rfl o o ?_
  refine su.load rfl o o ?_
  simp only [aC]
  refine B0u o x F.2 ⟨_,_,rfl,B0 h,?_⟩
  generalize hT:us.getD (m+2) 0*b64+us.getD (m+1) 0=T at a
  have aa:us.getD (m+2) 0*18446744073709551616+us.getD (m+1) 0=T:=hT
  have z:0<=T:=a.top0
  have w:=a.init
  have H:=aO T (vs.getD (m+1) 0)
  have R:=aT T (show vs.getD (m+1) 0≠0 from o)
  have S:=aL T (show 0<vs.getD (m+1) 0 from o)
  have u:0<=T/vs.getD (m+1) 0:=bX z o
  have e:T/vs.getD (m+1) 0<18446744073709551616:=by
   apply bG o
   omega
  refine ⟨fun l N=>∃ q r:Int,l=[U q,U r]/\N=h/\(0<=q/\q<18446744073709551616)/\(0<=r/\r<18446744073709551616)/\q*vs.getD (m+1) 0+r=T/\X<(q+1)*Y,fun l _=>(iAt l 0).toNat,⟨_,_,rfl,rfl,⟨u,e⟩,o,gz0,w⟩,?_⟩
  rintro q r s ⟨q',D,M,rfl,g,hr,L,k⟩
  obtain ⟨rfl,rfl⟩:q=q'/\r=D:=gz0
  have hm:0<=q*vs.getD m 0/\q*vs.getD m 0<=18446744073709551615*18446744073709551615:=⟨aR g.1 p.1,dM o gz0 p.1 dc⟩
  have b:q*vs.getD m 0<=r*18446744073709551616+us.getD m 0->K (U q) s:=by
   intro W
   refine hK q g.1 g.2 k (a.up gz0 ?_)
   grind
  have c:¬ (q*vs.getD m 0<=r*18446744073709551616+us.getD m 0)->Br (decide (C6 (r+vs.getD (m+1) 0)<vs.getD (m+1) 0)) (K (U (C6 (q-1))) s) ((∃ q_1 r_1:Int,[U (C6 (q-1)),U (C6 (r+vs.getD (m+1) 0))]=[U q_1,U r_1]/\s=s/\(0<=q_1/\q_1<18446744073709551616)/\(0<=r_1/\r_1<18446744073709551616)/\q_1*vs.getD (m+1) 0+r_1=T/\X<(q_1+1)*Y)/\(iAt [U (C6 (q-1)),U (C6 (r+vs.getD (m+1) 0))] 0).toNat<(iAt [U q,U r] 0).toNat):=by
   intro hf
   have C:X<q*Y:=a.low g.1 gz0
   have e:1<=q:=by
    grind
   have d:X<(q-1+1)*Y:=gz0
   have j:(q-1)*vs.getD (m+1) 0+(r+vs.getD (m+1) 0)=T:=gz0
   rw [C3 (n:=q-1) o o]
   refine B4 (fun i=>?_) (fun i=>?_)
   ·rw [J0] at i
    refine hK (q-1) o o d (a.up gz0 ?_)
    grind
   ·have y:r+vs.getD (m+1) 0<18446744073709551616:=by
     by_cases hc:r+vs.getD (m+1) 0<18446744073709551616
     ·exact hc
     ·rw [J0] at i;omega
    rw [C3 (n:=r+vs.getD (m+1) 0) o y]
    exact ⟨⟨q-1,r+vs.getD (m+1) 0,rfl,rfl,o,o,j,d⟩,by simp only [iAt,aI];omega⟩
  refine Md g o ⟨_,_,rfl,?_⟩
  have ab:0<=us.getD m 0/\us.getD m 0<18446744073709551616:=Q4 du m
  refine B4 (fun i=>b o) (fun i=>?_)
  refine C8 (fun O=>?_) (fun O=>c o)
  refine su.load rfl o o ?_
  rw [aC]
  exact B4 (fun Q=>b o) (fun Q=>c o)
end
section
variable {h g:bJ} {K:VP} {bu bq:Nat} {pre qs:List Int} {VA:Option bU} {vs:List Int}
def C2w{n N:Nat}{ws:List Int}{q:Int}{J:LP}(hu:g bu=none)(hq:g bq=none)(hne:bu≠bq)(sv:SlI .u64 g VA vs)(dv:Dig b64 vs)(hn:n=vs.length)(dw:Dig b64 ws)(hN:N=(pre++ws).length)(hl:n<ws.length)(hbig:N<=40000000000000)
 (hD:val b64 (ws.take n)+val b64 vs<2*b64^n) (hD0:b64^n<=val b64 (ws.take n)+val b64 vs) (htop:ws.getD n 0=18446744073709551615)
 (hJ:∀ ws',ws'.length=ws.length->Dig b64 ws'->ws'.drop (n+1)=ws.drop (n+1)->ws'.getD n 0=0->val b64 (ws'.take n)=val b64 (ws.take n)+val b64 vs-b64^n->J [U (C6 (q-1))] (Nm .u64 194 g bu (pre++ws') bq qs)):
 Ft prog n VA n (some ⟨bu,0,none⟩) N (pre.length:Int) q J (Nm .u64 194 g bu (pre++ws) bq qs):=by
 refine ⟨fun l F=>∃ (k:Nat) (c:Int) (zs:List Int),l=[U c,I k]/\k<=n/\zs.length=ws.length/\Dig b64 zs/\(0<=c/\c<=1)/\F=Nm .u64 194 g bu (pre++zs) bq qs/\zs.drop k=ws.drop k/\val b64 (zs.take k)+c*b64^k=val b64 (ws.take k)+val b64 (vs.take k),fun l _=>n-(iAt l 1).toNat,⟨0,0,ws,rfl,o,rfl,dw,o,rfl,rfl,by rfl⟩,?_⟩
 rintro c i T ⟨k,C,zs,Q,S,H,p,R,rfl,a,O⟩
 obtain ⟨rfl,rfl⟩:c=C/\i=(k:Int):=gz0
 have w:g.le (Nm .u64 194 g bu (pre++zs) bq qs):=B19 hu hq hne
 have z:SlI .u64 (Nm .u64 194 g bu (pre++zs) bq qs) (some ⟨bu,0,none⟩) (pre++zs):=B18 hne
 have m:N=(pre++zs).length:=gz0
 have L:N=pre.length+zs.length:=gz0
 have x:B9 ((pre.length:Int)+k)=((k+pre.length:Nat):Int):=by rw [B5 o o];omega
 have s:B9 ((pre.length:Int)+n)=((n+pre.length:Nat):Int):=by rw [B5 o o];omega
 refine B4 (fun G=>?_) (fun G=>?_)
 ·have D:=Q4 dv k
  have B:=Q4 p k
  have b:=J9 a
  have M:=C7 b64 vs k
  have E:=C7 b64 ws k
  rw [x]
  refine (sv.mono w).load hn o o ?_
  refine z.load m o o ?_
  simp only [aC,Yn]
  refine Cv B D R ⟨_,_,rfl,?_⟩
  refine ⟨_,rfl,o,o,?_⟩
  have st:=Kj (P:=prog) (t:=194) (k:=.u64) (e:=194) (g:=g) (bu:=bu) (bq:=bq) (us:=pre++zs) (qs:=qs) (i:=((k+pre.length:Nat):Int)) (n:=(zs.getD k 0+vs.getD k 0+c)%18446744073709551616) F8 hne o
   (K:=fun _ j=>(∃ (k_1:Nat) (c_1:Int) (zs_1:List Int),[U ((zs.getD k 0+vs.getD k 0+c)/18446744073709551616),I (B9 ((k:Int)+1))]=[U c_1,I k_1]/\k_1<=n/\zs_1.length=ws.length/\Dig b64 zs_1/\(0<=c_1/\c_1<=1)/\j=Nm .u64 194 g bu (pre++zs_1) bq qs/\zs_1.drop k_1=ws.drop k_1/\val b64 (zs_1.take k_1)+c_1*b64^k_1=val b64 (ws.take k_1)+val b64 (vs.take k_1))/\n-(iAt [U ((zs.getD k 0+vs.getD k 0+c)/18446744073709551616),I (B9 ((k:Int)+1))] 1).toNat<n-(iAt [U c,I k] 1).toNat)
  rw [aC] at st
  refine st ?_
  rw [A2z,B5 (n:=(k:Int)+1) o o]
  refine ⟨⟨k+1,_,zs.set k ((zs.getD k 0+vs.getD k 0+c)%18446744073709551616),rfl,o,gz0,p.set (Dx _),o,rfl,?_,?_⟩,by simp only [iAt,aI,aP];omega⟩
  ·rw [G7 o];exact H9 a
  ·rw [E6 o,J4,aK,aJ o,bF,Pb,M,E,<- b]
   grind
 ·have r:k=n:=o
  subst r
  have b:=J9 a
  rw [s]
  refine z.load m o o ?_
  rw [aC,Yn,b,htop]
  refine ⟨_,rfl,o,o,?_⟩
  have u:vs.take k=vs:=gz0
  rw [u] at O
  have A:=R9 dc (p.take k)
  have y:c=1:=by
   grind
  subst y
  have st:=Kj (P:=prog) (t:=194) (k:=.u64) (e:=194) (g:=g) (bu:=bu) (bq:=bq) (us:=pre++zs) (qs:=qs) (i:=((k+pre.length:Nat):Int)) (n:=0) F8 hne o (K:=fun _ d=>J [U (C6 (q-1))] d)
  rw [aC] at st
  refine st ?_
  rw [A2z]
  refine hJ (zs.set k 0) gz0 (p.set dc) (by rw [G7 o];exact H9 a) gz0 ?_
  rw [List.take_set_of_le o]
  omega
end
def B24{g h':bJ}{e:cK}{bu bq:Nat}{A:Option bU}{us qs:List Int}(hne:bu≠bq)(w:Win .u64 h' (blk .u64 e g bq qs) bu e A [] us []):h'=Nm .u64 e g bu us bq qs:=by
 rw [Hw hne,w.eq]
 simp [blk]
def B4h{g:bJ}{e:cK}{bu bq:Nat}{us qs:List Int}(hu:g bu=none)(hne:bu≠bq):Win .u64 (Nm .u64 e g bu us bq qs) (blk .u64 e g bq qs) bu e (some ⟨bu,0,none⟩) [] us []:=by
 rw [Hw hne]
 refine Win.blk .u64 e ?_ us
 unfold blk;rw [B6 _ _ hne];exact hu
def A1t{P:dI}{t:cK}{k:cZ}{e:cK}{g:bJ}{bu bq:Nat}{us qs:List Int}(one:P.cellsOf t=1/\(P.info? t).isSome=true)(hne:bu≠bq){n:Int}{i:Nat}(hi:i<us.length){K:Unit->bJ->Prop}
 (x:K () (Nm k e g bu (us.set i n) bq qs)):wpH P (dT t (.pointer (some (eS ⟨bu,0,none⟩ (i*1)))) (.int k n)) K (Nm k e g bu us bq qs):=by
 have:=Kj (P:=P) (t:=t) (k:=k) (e:=e) (g:=g) (bu:=bu) (bq:=bq) (us:=us) (qs:=qs) (i:=(i:Int)) (n:=n) (K:=K) one hne o (by assumption)
 assumption
def A1u{P:dI}{t:cK}{k:cZ}{e:cK}{g:bJ}{bu bq:Nat}{us qs:List Int}(one:P.cellsOf t=1/\(P.info? t).isSome=true){n:Int}{i:Nat}(hi:i<qs.length){K:Unit->bJ->Prop}
 (x:K () (Nm k e g bu us bq (qs.set i n))):wpH P (dT t (.pointer (some (eS ⟨bq,0,none⟩ (i*1)))) (.int k n)) K (Nm k e g bu us bq qs):=by
 have:=A3z (P:=P) (t:=t) (k:=k) (e:=e) (g:=g) (bu:=bu) (bq:=bq) (us:=us) (qs:=qs) (i:=(i:Int)) (n:=n) (K:=K) one o (by assumption)
 assumption
section
variable {h g:bJ} {K:VP} {bu bq:Nat} {VA:Option bU} {vs us0:List Int}
set_option maxHeartbeats 1000000 in
def A2y{s mm N nq vc xn:Nat}{a b Y:Int}(hu:g bu=none)(hq:g bq=none)(hne:bu≠bq)(sv:SlI .u64 g VA vs)(dv:Dig b64 vs)(hn:vs.length=mm+2)(hv1:b64<=2*vs.getD (mm+1) 0)(hs:s<64)(hY:val b64 vs=Y)(hYb:Y=b*2^s)(du:Dig b64 us0)(hN:us0.length=N)(hua:val b64 us0=a*2^s)(hxn:N=xn+1)(hnq:N=nq+(mm+2))(hnq1:1<=nq)(hbig:N<=20000000000001)(htop:val b64 (us0.drop nq)<Y)
 (hK:∀ A1 m1 c1 A2 m2 c2 h',g.le h'->m1<=c1->m2<=c2->Mw h' A1 m1 (a/b)->Mw h' A2 m2 (a%b)->K (.tuple #[.slice A1 m1 c1,.slice A2 m2 c2]) h'):
 Ay prog xn (mm+2) K (s:Int) VA (mm+2) vc (some ⟨bu,0,none⟩) N N (some ⟨bq,0,none⟩) nq nq (Nm .u64 194 g bu us0 bq (aF nq 0)):=by
 have hp:0<(2:Int)^s:=bO dc
 have a4:Y<b64^(mm+2):=by rw [<- hY,<- hn];exact R9 dc dv
 have bb:0<Y:=by have:=C5 dc (du.drop nq);omega
 have e0:B9 ((xn:Int)-((mm+2:Nat):Int))=(nq:Int)-1:=by rw [B5 o o];omega
 unfold Ay
 refine ⟨fun l h'=>∃ (k:Nat) (us qs:List Int),l=[I ((k:Int)-1)]/\k<=nq/\us.length=N/\qs.length=nq/\Dig b64 us/\Dig b64 qs/\h'=Nm .u64 194 g bu us bq qs/\val b64 (us.drop k)<Y/\val b64 us0=val b64 (qs.drop k)*Y*b64^k+val b64 us,fun l _=>(iAt l 0+1).toNat,⟨nq,us0,_,by rw [e0],o,hN,by simp,du,P4 dc _,rfl,htop,by simp [val]⟩,?_⟩
 rintro j a9 ⟨k,us,qs,ay,hk,O,af,x,ai,rfl,ao,hv⟩
 obtain rfl:j=(k:Int)-1:=by simpa using ay
 have ad:g.le (Nm .u64 194 g bu us bq qs):=B19 hu hq hne
 have su:SlI .u64 (Nm .u64 194 g bu us bq qs) (some ⟨bu,0,none⟩) us:=B18 hne
 unfold Fu
 refine B4 (fun h1=>?_) (fun h1=>?_)
 ·obtain ⟨j,rfl⟩:∃ j,k=j+1:=⟨k-1,o⟩
  have ej:((j+1:Nat):Int)-1=(j:Int):=o
  rw [ej]
  have e1:B9 ((j:Int)+((mm+2:Nat):Int))=((j+(mm+2):Nat):Int):=by rw [B5 o o];omega
  have e2:B9 (((j+(mm+2):Nat):Int)+1)=((j+(mm+3):Nat):Int):=by rw [B5 o o];omega
  simp only [e1,e2,aC]
  have A:=x.drop j
  have M:(us.drop j).length=N-j:=by rw [cC,O]
  have z:val b64 ((us.drop j).drop (mm+3))=0:=by
   have:=Ub (B:=b64) dc (n:=mm+2) (x.drop (j+1)) o
   rw [cX] at this ⊢
   rw [show j+(mm+3)=j+1+(mm+2) from o];exact this
  have aj:=A7m b64 us j
  have au:val b64 (us.drop j)<Y*b64:=by
   have be:=Q4 x j
   rw [aj]
   have t1:b64*(val b64 (us.drop (j+1))+1)<=b64*Y:=aH o dc
   have t2:b64*(val b64 (us.drop (j+1))+1)=b64*val b64 (us.drop (j+1))+18446744073709551616:=by show (18446744073709551616:Int)*_=_;grind
   have t3:Y*b64=b64*Y:=aV _ _
   omega
  have L:=J6 b64 (us.drop j) (i:=mm+3) o
  rw [z,eC,eD] at L
  have ax:=L0 b64 (us.drop j) (mm+2)
  have hX:val b64 (us.drop j)=val b64 ((us.drop j).take (mm+2))+b64^(mm+2)*(us.drop j).getD (mm+2) 0:=by rw [L];exact ax
  refine ⟨⟨o,o⟩,⟨o,o⟩,?_⟩
  have sw:SlI .u64 (Nm .u64 194 g bu us bq qs) (U3 (some ⟨bu,0,none⟩) N j 1) ((us.drop j).take (mm+3)):=by
   have:=su.cut (c:=N) (l:=j) (m:=j+(mm+3)) o o o
   rwa [show j+(mm+3)-j=mm+3 from o] at this
  generalize hXX:val b64 (us.drop j)=X at *
  refine Yr (m:=mm) (X:=X) (Y:=Y) sw (sv.mono ad) (by rw [aK,M];omega) hn.symm (A.take _) dv (by rw [aK,M];omega) hn o hv1 L.symm hY au ?_
  intro q q0 q1 q2 q3
  refine ⟨_,rfl,⟨o,o⟩,⟨o,o⟩,?_⟩
  have w0:=B4h (e:=194) (us:=us) (qs:=qs) hu hne
  have az:SlI .u64 (blk .u64 194 g bq qs) VA vs:=sv.mono (Wd hq qs)
  have hW:(us.drop j).take (j+(mm+2)-j)=(us.drop j).take (mm+2):=by rw [show j+(mm+2)-j=mm+2 from o]
  have w1:=w0.sub (l:=j) (m:=j+(mm+2)) (c:=N) o o o
  rw [hW] at w1
  have Q:((us.drop j).take (mm+2)).length=mm+2:=by rw [aK,M];omega
  refine Iz w1 (by rw [Q];omega) az hn.symm (A.take _) dv (by rw [Q,hn]) ⟨q0,q1⟩ o ?_
  intro W c h2 r E y H w2
  rw [Q] at r H
  refine ⟨_,rfl,?_⟩
  have w3:=w0.whole (l:=j) (m:=j+(mm+2)) o o o w2
  have ab:=B24 hne w3
  have p:(us.take j).length=j:=by rw [aK,O];omega
  have ak:us.drop (j+(mm+2))=(us.drop j).drop (mm+2):=by rw [cX]
  rw [cJ,ak] at ab
  subst ab
  generalize hws:us.drop j=ws at *
  have u:(W++ws.drop (mm+2)).length=ws.length:=by rw [aX,cC];omega
  have dW:Dig b64 (W++ws.drop (mm+2)):=E.append (A.drop _)
  have aa:(W++ws.drop (mm+2)).getD (mm+2) 0=ws.getD (mm+2) 0:=by
   simp only [fD]
   rw [List.getElem?_append_right o,r,Nat.sub_self,List.getElem?_drop,fZ]
  have V:=Q4 A (mm+2)
  have a1:(us.take j++(W++ws.drop (mm+2))).length=N:=by rw [aX,u,p];omega
  have al:SlI .u64 (Nm .u64 194 g bu (us.take j++(W++ws.drop (mm+2))) bq qs) (some ⟨bu,0,none⟩) (us.take j++(W++ws.drop (mm+2))):=B18 hne
  have a3:j+(mm+2)=(mm+2)+(us.take j).length:=o
  refine al.load a1.symm o o ?_
  rw [aC,a3,Yn,aa]
  refine ⟨_,rfl,o,o,?_⟩
  refine A1t (i:=mm+2+(us.take j).length) F8 hne o ?_
  rw [A2z]
  have hP:0<b64^(mm+2):=E9 dc _
  have ap:=R9 dc E
  have a8:=C5 dc E
  rw [r] at ap
  rw [hY] at H
  have hD:X-q*Y=val b64 W+(ws.getD (mm+2) 0-c)*b64^(mm+2):=by rw [H,hX];grind
  have S:X-q*Y<Y:=by
   have:(q+1)*Y=q*Y+Y:=gz0
   omega
  have a7: -Y<=X-q*Y:=by
   have:(q-1)*Y=q*Y-Y:=gz0
   omega
  have bf:0<=X:=by
   have t1:=C5 dc (A.take (mm+2))
   have t2:=aR (aQ hP) V.1
   omega
  have a5:ws.getD (mm+2) 0-c=0\/ws.getD (mm+2) 0-c= -1:=by
   have t2:ws.getD (mm+2) 0-c<1:=by
    by_cases y:ws.getD (mm+2) 0-c<1
    ·exact y
    ·have:=aE (show 1<=ws.getD (mm+2) 0-c from o) (aQ hP);omega
   have t3: -2<ws.getD (mm+2) 0-c:=by
    by_cases y: -2<ws.getD (mm+2) 0-c
    ·exact y
    ·have:=aE (show ws.getD (mm+2) 0-c <= -2 from o) (aQ hP);omega
   omega
  have C:∀ v,((W++ws.drop (mm+2)).set (mm+2) v).take (mm+2)=W:=by
   intro v
   rw [List.take_set_of_le o,dH r]
  have ac:∀ v,((W++ws.drop (mm+2)).set (mm+2) v).getD (mm+2) 0=v:=by
   intro v
   rw [fD,List.getElem?_set_self o];rfl
  have ah:∀ v,((W++ws.drop (mm+2)).set (mm+2) v).drop (mm+3)=ws.drop (mm+3):=by
   intro v
   rw [G7 o,show mm+3=(mm+2)+1 from o,<- cX,fJ r,cX]
  refine ⟨fun l h'=>∃ d w,l=[U w]/\h'=Nm .u64 194 g bu (us.take j++d) bq qs/\d.length=ws.length/\Dig b64 d/\d.drop (mm+3)=ws.drop (mm+3)/\d.getD (mm+2) 0=0/\val b64 (d.take (mm+2))=X-w*Y/\0<=X-w*Y/\X-w*Y<Y/\0<=w/\w<18446744073709551616,B4 (fun h3=>?_) (fun h3=>?_),?_⟩
  ·have G:ws.getD (mm+2) 0-c= -1:=o
   rw [G] at hD ⊢
   have ag:C6 (-1)=18446744073709551615:=by rw [J0];omega
   rw [ag]
   have a0:1<=q:=by
    by_cases y:1<=q
    ·exact y
    ·have:q=0:=o
     subst this;omega
   have e5:(q-1)*Y=q*Y-Y:=gz0
   have bk:=C2w (g:=g) (bu:=bu) (bq:=bq) (pre:=us.take j) (qs:=qs) (VA:=VA) (vs:=vs) (n:=mm+2) (N:=N) (ws:=(W++ws.drop (mm+2)).set (mm+2) 18446744073709551615) (q:=q)
    (J:=fun l h'=>∃ d w,l=[U w]/\h'=Nm .u64 194 g bu (us.take j++d) bq qs/\d.length=ws.length/\Dig b64 d/\d.drop (mm+3)=ws.drop (mm+3)/\d.getD (mm+2) 0=0/\val b64 (d.take (mm+2))=X-w*Y/\0<=X-w*Y/\X-w*Y<Y/\0<=w/\w<18446744073709551616)
    hu hq hne sv dv hn.symm (dW.set dc) (by rw [aX,eI,u,p];omega) (by rw [eI,u];omega) o (by rw [C,hY];omega) (by rw [C,hY];omega) (ac _) ?_
   ·rw [p] at bk;exact bk
   ·intro d g1 g2 g3 g4 g5
    rw [C,hY] at g5
    rw [C3 (n:=q-1) o o]
    refine ⟨d,q-1,rfl,rfl,by rw [g1,eI,u],g2,by rw [g3,ah],g4,o,o,o,o,o⟩
  ·have F:ws.getD (mm+2) 0-c=0:=o
   rw [F] at hD ⊢
   have ar:C6 0=0:=by rw [J0];omega
   rw [ar]
   exact ⟨(W++ws.drop (mm+2)).set (mm+2) 0,q,rfl,rfl,by rw [eI,u],dW.set dc,ah _,ac _,by rw [C];omega,o,S,q0,q1⟩
  ·rintro q4 a6 ⟨d,w,an,rfl,g1,g2,g3,g4,g5,g6,g7,g8,g9⟩
   obtain rfl:q4=w:=by simpa using an
   refine ⟨_,rfl,o,o,?_⟩
   refine A1u (i:=j) F8 o ?_
   rw [B5 o o]
   have T:val b64 d=X-q4*Y:=by
    have z1:=J6 b64 d (i:=mm+3) o
    rw [g3,z,L0,g4,g5] at z1
    simp at z1
    omega
   refine ⟨⟨j,us.take j++d,qs.set j q4,rfl,o,by rw [aX,g1,p];omega,by simpa using af,(x.take j).append g2,ai.set ⟨g8,g9⟩,rfl,?_,?_⟩,by simp only [iAt,aI];omega⟩
   ·rw [fJ p,T];exact g7
   ·have R:=J6 b64 us (i:=j) o
    rw [hws,hXX] at R
    rw [hv,Fc o,H1,p,T,R,bF]
    simp only [val]
    grind
 ·have aq:k=0:=o
  subst aq
  simp at ao hv
  have bd:0<b:=by
   by_cases y:0<b
   ·exact y
   ·have:=aE (show b<=0 from o) (aQ hp);omega
  have ba:=C5 dc x
  have hR:val b64 us=(a-val b64 qs*b)*2^s:=by
   rw [hua,hYb] at hv
   grind
  have av:0<=a-val b64 qs*b:=by
   by_cases y:0<=a-val b64 qs*b
   ·exact y
   ·have:=aE (show a-val b64 qs*b <= -1 from o) (aQ hp);omega
  have am:a-val b64 qs*b<b:=by
   by_cases y:a-val b64 qs*b<b
   ·exact y
   ·have:=aE (show b<=a-val b64 qs*b from o) (aQ hp);omega
  have D:a/b=val b64 qs:=by
   have:a=(a-val b64 qs*b)+val b64 qs*b:=o
   rw [this,eE _ _ o,bL av am,cQ]
  have ae:a%b=a-val b64 qs*b:=by
   have:=Int.emod_def a b
   rw [this,D,aV]
  rw [D,ae] at hK
  rw [<- af]
  refine R7 C2s ai (bI _) o ?_
  intro m1 ag M1
  refine ⟨_,_,_,rfl,?_⟩
  rw [<- O]
  refine R7 su x (bI _) o ?_
  intro m2 bc M2
  refine ⟨_,_,_,rfl,?_⟩
  rw [C3 o o]
  refine Ff M2 (by have:=M2.len_le dc (j:=mm+2) o;omega) o ?_
  intro A3 m3 c3 h3 l3 k3 M3
  have a2:val b64 us/2^s=a-val b64 qs*b:=by rw [hR,eU _ o]
  rw [a2] at M3
  exact ⟨_,_,_,rfl,hK _ _ _ _ _ _ _ (A0 ad l3) o k3 (M1.mono l3) M3⟩
end
section
variable {h g:bJ} {K:VP} {A B:Option bU} {ac bc:Nat}
set_option maxHeartbeats 1000000 in
def Ea{x y:Int}{an bn:Nat}(ma:Mw h A an x)(mb:Mw h B bn y)(ha:an<=ac)(hbc:bn<=bc)(hy:y≠0)(hl:an<=20000000000000)(hl2:bn<=20000000000000)
 (hK:∀ A1 m1 c1 A2 m2 c2 h',h.le h'->m1<=c1->m2<=c2->Mw h' A1 m1 (x/y)->Mw h' A2 m2 (x%y)->K (.tuple #[.slice A1 m1 c1,.slice A2 m2 c2]) h'):aY prog 252 #[.slice A an ac,.slice B bn bc] h K:=by
 have L:=ma.nonneg dc
 have ap:=mb.nonneg dc
 have a5:=mb.len_zero dc
 have z:=ma.lt dc
 have a9:=mb.lt dc
 refine Qt _ _ _ _ _ _ ?_
 unfold Ng
 refine G8 ma mb o ⟨_,rfl,B4 (fun D=>?_) (fun D=>C8 (fun h2=>?_) (fun h2=>?_))⟩
 ·have M:x<y:=by
   unfold Bb at D
   by_cases c:x<y
   ·exact c
   ·rw [iN c] at D
    by_cases O:x>y
    ·rw [iP O] at D;omega
    ·rw [iN O] at D;omega
  rw [bL L M,eZ L M] at hK
  exact hK none 0 0 _ _ _ _ (B0 h) (bI _) ha Mag.zero ma
 ·obtain ⟨a,rfl,sy,dy,ny,rfl⟩:=mb
  have R:a.length=1:=o
  obtain ⟨d,rfl⟩:∃ d,a=[d]:=by
   cases a with
   | nil=>simp at R
   | cons d r=>
    cases r with
    | nil=>exact ⟨d,rfl⟩
    | cons _ _=>simp at R
  rw [Er] at hy ap hK
  have hd:=dy d (by simp)
  obtain ⟨w,rfl⟩:∃ w:Nat,d=w:=⟨d.toNat,o⟩
  refine sy.load rfl o (by simp) ?_
  show aY _ _ #[_,U (w:Int)] _ _
  have hw:w<18446744073709551616:=by have:=hd.2;have:(w:Int)<18446744073709551616:=this;omega
  refine Te ma ⟨o,hw⟩ hl ?_
  intro A' m c' h' aj hm a6 hM
  refine ⟨_,_,_,_,rfl,?_⟩
  refine Bl ⟨aT _ o,by have:=aL x (show (0:Int)<w from o);omega⟩ ?_
  intro A2 m2 c2 h3 G k3 M3
  exact ⟨_,_,_,rfl,hK _ _ _ _ _ _ _ (A0 aj G) hm k3 (hM.mono G) M3⟩
 ·have aq:y<=x:=by
   unfold Bb at D
   by_cases c:x<y
   ·rw [iP c] at D;omega
   ·omega
  have a8:bn<=an:=mb.len_le dc (cL aq z)
  have ay:=mb
  have ak:=ma
  obtain ⟨a,rfl,sy,dy,ny,rfl⟩:=mb
  obtain ⟨mm,hmm⟩:∃ mm,a.length=mm+2:=⟨a.length-2,o⟩
  have gt:=Q4 dy (mm+1)
  have ao:=A7u (m:=mm+1) hmm ny
  obtain ⟨H,q⟩:=Il (B:=b64) dc dy (m:=mm+1) hmm
  have e1:B9 ((a.length:Int)-1)=((mm+1:Nat):Int):=by rw [B5 o o];omega
  rw [e1]
  refine sy.load rfl o o ?_
  rw [aC]
  obtain ⟨t,ht⟩:∃ t:Nat,a.getD (mm+1) 0=t:=⟨(a.getD (mm+1) 0).toNat,o⟩
  rw [ht] at gt ao H q ⊢
  have p:t≠0:=o
  refine T3 o ⟨_,rfl,?_⟩
  obtain ⟨az,a1⟩:=Ed p
  have a2:V6 t<=64:=Hx (k:=64) o
  have a0:1<=V6 t:=by unfold V6;rw [iN p];omega
  obtain ⟨s,hs⟩:∃ s,s=64-V6 t:=⟨_,rfl⟩
  rw [<- hs]
  have X:s<64:=o
  have b:0<(2:Int)^s:=bO dc
  have am:=Ak (s:=s) o
  have C:V6 t=64-s:=o
  have au:(t:Int)+1<=2^(64-s):=by
   rw [<- C]
   have:((t+1:Nat):Int)<=((2^V6 t:Nat):Int):=o
   simpa using this
  have al:(2:Int)^(63-s)<=t:=by
   have:((2^(V6 t-1):Nat):Int)<=((t:Nat):Int):=o
   rw [show V6 t-1=63-s from o] at this
   simpa using this
  have F:(2:Int)^s*2^(63-s)=9223372036854775808:=by
   rw [<- aW,show s+(63-s)=63 from o];decide
  have ai:C6 (s:Int)=(s:Int):=C3 o o
  rw [ai]
  have g:=E9 (B:=b64) dc (mm+1)
  have ah:val b64 a*2^s<b64^(mm+2):=by
   have t2:val b64 a*2^s<((t:Int)+1)*b64^(mm+1)*2^s:=bK H b
   have t3:((t:Int)+1)*b64^(mm+1)*2^s=((t:Int)+1)*2^s*b64^(mm+1):=gz0
   have t4:((t:Int)+1)*2^s*b64^(mm+1)<=18446744073709551616*b64^(mm+1):=by
    apply aE _ (aQ g)
    rw [<- am,aV (2^s)]
    exact aE au (aQ b)
   have t5:b64^(mm+2)=18446744073709551616*b64^(mm+1):=by rw [bF b64 (mm+1),aV]
   omega
  have a7:9223372036854775808*b64^(mm+1)<=val b64 a*2^s:=by
   have t1:(t:Int)*b64^(mm+1)*2^s<=val b64 a*2^s:=aE q (aQ b)
   have t2:9223372036854775808*b64^(mm+1)<=(t:Int)*2^s*b64^(mm+1):=by
    apply aE _ (aQ g)
    rw [<- F,aV (t:Int)]
    exact aH al o
   have t3:(t:Int)*2^s*b64^(mm+1)=(t:Int)*b64^(mm+1)*2^s:=gz0
   omega
  refine R8 ay hbc hl2 o ?_
  intro A1 n1 c1 g1 l1 k1 M1
  refine ⟨_,_,_,rfl,?_⟩
  have ab:n1=mm+2:=by
   have q1:=M1.len_le dc ah
   have q2:=M1.lt dc
   by_cases c:n1=mm+2
   ·exact c
   ·have:=D5 (B:=b64) dc (show n1<=mm+1 from o)
    omega
  subst ab
  obtain ⟨vs,V,sv,dv,nv,aa⟩:=M1
  have af:b64<=2*vs.getD (mm+1) 0:=by
   obtain ⟨q1,q2⟩:=Il (B:=b64) dc dv (m:=mm+1) V.symm
   rw [aa] at q1
   have:9223372036854775808<vs.getD (mm+1) 0+1:=by
    by_cases c:9223372036854775808<vs.getD (mm+1) 0+1
    ·exact c
    ·have:=aE (show vs.getD (mm+1) 0+1<=9223372036854775808 from o) (aQ g);omega
   show (18446744073709551616:Int)<=_
   omega
  have eN:B9 ((an:Int)+1)=((an+1:Nat):Int):=by rw [B5 o o];omega
  rw [eN]
  refine T6 Q6 o o o ?_
  intro bu ar
  rw [aC]
  refine ⟨_,_,_,rfl,?_⟩
  have w0:=Win.blk .u64 194 ar (aF (an+1) 0)
  refine w0.call ?_
  refine R8 (ak.mono l1) ha hl o ?_
  intro A3 n3 c3 g3 G k3 M3 h4 w4
  refine ⟨_,_,_,rfl,?_⟩
  have av:x*2^s<b64^(an+1):=by
   have t1:x*2^s<b64^an*2^s:=bK z b
   have t2:b64^an*2^s<=b64^an*18446744073709551616:=by
    apply aH _ (aQ (E9 dc an))
    have:=D5 (B:=2) dc (show s<=64 from o)
    have e:(2:Int)^64=18446744073709551616:=dc
    omega
   rw [bF];show _<b64^an*(18446744073709551616:Int);omega
  have a4:=M3.len_le dc av
  obtain ⟨us,ax,ag,ad,a3,S⟩:=M3
  refine Cc Q6 w4 (by simp) (ag.mono w4.le) ax (by simp;omega) ?_
  intro h5 w5
  refine ⟨_,rfl,?_⟩
  rw [bN] at w5
  generalize hu0:us++aF (an+1-us.length) (0:Int)=us0 at w5
  have W:us0.length=an+1:=by rw [<- hu0];simp;omega
  have u:Dig b64 us0:=by rw [<- hu0];exact ad.append (P4 dc _)
  have l:val b64 us0=x*2^s:=by rw [<- hu0,Cm];exact S
  obtain ⟨nq,hnq⟩:∃ nq,an+1=nq+(mm+2):=⟨an+1-(mm+2),o⟩
  have eq:B9 (B9 ((an:Int)-(a.length:Int))+1)=(nq:Int):=by
   rw [B5 (n:=(an:Int)-(a.length:Int)) o o,B5 o o];omega
  rw [eq]
  refine T6 Q6 o o o ?_
  intro bq j
  rw [aC]
  refine ⟨_,_,_,rfl,?_⟩
  have ae:h5=blk .u64 194 g3 bu us0:=by rw [w5.eq];simp [blk]
  subst ae
  have T:g3 bu=none:=w5.free
  have E:bu≠bq:=by
   rintro rfl
   unfold blk at j
   rw [B8] at j;cases j
  have Q:g3 bq=none:=by
   have:=j
   unfold blk at this
   rwa [B6 _ _ E.symm] at this
  rw [hmm]
  refine A2y (us0:=us0) (N:=an+1) (xn:=an) T Q E (sv.mono G) dv V.symm af X aa rfl u W l rfl hnq o o ?_ ?_
  ·have s1:=J6 b64 us0 (i:=nq) o
   have s2:=C5 dc (u.take nq)
   have s3:val b64 us0<b64^an*2^s:=by
    rw [l];exact bK z b
   have s4:b64^(mm+1)<=val b64 a:=by
    have:=aE (show 1<=(t:Int) from o) (aQ g);omega
   have s5:b64^nq*(b64^(mm+1)*2^s)<=b64^nq*(val b64 a*2^s):=aH (aE s4 (aQ b)) (aQ (E9 dc nq))
   have s6:b64^nq*(b64^(mm+1)*2^s)=b64^an*2^s:=by
    rw [<- dE,<- aW,show nq+(mm+1)=an from o]
   by_cases c:val b64 (us0.drop nq)<val b64 a*2^s
   ·exact c
   ·have:=aH (show val b64 a*2^s<=val b64 (us0.drop nq) from o) (aQ (E9 (B:=b64) dc nq));omega
  ·intro A5 m5 c5 A6 m6 c6 h6 l6 k5 k6 M5 M6
   exact hK _ _ _ _ _ _ _ (A0 l1 (A0 G l6)) k5 k6 M5 M6
end
def Yv{x a b p:Int}(h:a+p*b=x)(h0:0<=a)(h1:a<p):x/p=b/\x%p=a:=(Int.ediv_emod_unique o).2 ⟨h,h0,h1⟩
def Jh{P:dI}{h:bJ}{A:Option bU}{n m c s:Nat}{cs:List eO}(hl:cs.length=n*s)(hc:cs=[]\/∃ a,A=some a/\∀ j v,cs[j]? = some v->h.cell? (a.add j)=some v){K:Array eO->bJ->Prop}(x:K cs.toArray h):
 wpH P (Builtin.firstCells s n (.slice A m c)) K h:=by
 cases A with
 | none=>
  rcases hc with rfl|⟨a,e,_⟩
  ·exact x
  ·cases e
 | some a=>
  show wpH P (loadCells a (n*s)) K h
  rcases hc with rfl|⟨b,e,hc⟩
  ·exact X3 (cs:=[]) hl.symm (fun j v e=>by simp at e) x
  ·cases e
   exact X3 hl.symm hc x
def B4b{P:dI}{t e ty:cK}{k:cZ}{bytes:Nat}(s:SliceT P t e (.int k 0) 1 bytes){h g:bJ}{b:Nat}{A:Option bU}{pre post:List eO}{xs:List Int}{n c m d:Nat}(w:Win k h g b e A pre xs post)(hn:n=xs.length){B:Option bU}{ys:List Int}(sy:SlI k h B ys)(hm:min m xs.length=ys.length){K:VP}
 (x:∀ h',Win k h' g b e A pre (ys++xs.drop ys.length) post->K (I ys.length) h'):wpH P (dU #[t,t] ty #[.slice A n c,.slice B m d]) K h:=by
 subst hn
 obtain ⟨i,y,z,p,q⟩:=s.parts
 unfold dU
 simp only [List.getElem?_toArray,aI,aP,C1,E4 s.und,L4 y,I4,Builtin.lenOf,p]
 have j:Nat.min m xs.length=ys.length:=hm
 rw [j]
 refine Jh (s:=1) (cs:=ys.map (bM k)) (by simp) sy ?_
 cases A with
 | none=>
  rcases w.at_ with l|l
  ·have:ys=[]:=bH gz0
   subst this
   exact x h (by assumption)
  ·cases l
 | some a=>
  simp only [C1]
  rcases w.at_ with l|l
  ·have:ys=[]:=bH gz0
   subst this
   exact x h (by assumption)
  ·cases l
   rw [w.eq]
   refine I3 (ys.map (bM k)) pre.length 0 (pre++xs.map (bM k)++post) gz0 (fun v r=>?_) ?_
   ·obtain ⟨u,_,rfl⟩:=List.mem_map.1 r;rfl
   ·refine x _ ⟨w.free,?_,?_⟩
    ·congr 3
     unfold F2
     rw [fZ,cJ pre,dH rfl,fI]
     rw [fE,aZ (show pre.length<=pre.length+ys.length from o),fR,cM]
     rw [dF gz0,<- List.map_drop,eG]
     grind
    grind
section
variable {h g:bJ} {K:VP} {A B:Option bU} {ac bc:Nat}
def B5s(a n:Nat):(if (a:Int)<(n:Int) then (a:Int) else (n:Int))=((min n a:Nat):Int):=o
def Kr{xs:List Int}(d:Dig b64 xs)(n:Nat):val b64 xs/b64^n=val b64 (xs.drop (min n xs.length))/\val b64 xs%b64^n=val b64 (xs.take (min n xs.length)):=by
 by_cases c:n<=xs.length
 ·rw [aJ c]
  have e:=J6 b64 xs c
  have a:=C5 dc (d.take n)
  have b:=R9 dc (d.take n)
  rw [aK,aJ c] at b
  exact Yv e.symm a b
 ·rw [fC o,List.drop_length,bZ]
  have a:=C5 dc d
  have b:=R9 dc d
  have g:=D5 (B:=b64) dc (show xs.length<=n from o)
  exact Yv (by simp [val]) a o
def Ah{x:Int}{an n:Nat}(ma:Mw h A an x)(ha:an<=ac)(hK:∀ A' m c',m<=c'->m<=an->Mw h A' m (x/b64^n)->K (.slice A' m c') h):aY prog 296 #[.slice A an ac,I n] h K:=by
 obtain ⟨xs,rfl,d,a,c,rfl⟩:=ma
 refine (fnk func296) ?_
 rw [B5s,aC]
 refine ⟨⟨o,o⟩,hK _ _ _ o o ?_⟩
 rw [(Kr a n).1,<- cC]
 refine Mw.of (Yx d o ha) (a.drop _) ?_
 by_cases b:min n xs.length<xs.length
 ·exact Mc c b
 ·rw [aZ o];exact Norm.nil
def Fb{x:Int}{an n:Nat}(ma:Mw h A an x)(ha:an<=ac)(hl:an<=100000000000000)(hK:∀ A' m c',m<=c'->m<=n->m<=an->Mw h A' m (x%b64^n)->K (.slice A' m c') h):aY prog 295 #[.slice A an ac,I n] h K:=by
 obtain ⟨xs,rfl,b,a,c,rfl⟩:=ma
 refine (fnk func295) ?_
 rw [B5s,aC,O7,cH,cH]
 refine ⟨⟨o,o⟩,Be (Iw b (m:=min n xs.length) o ha) (a.take _) gz0 (Kr a n).2.symm o o ?_⟩
 grind
def Ho{x y:Int}{an bn n:Nat}(ma:Mw h A an x)(mb:Mw h B bn y)(hbn:bn<=n)(hl:n+an<=34000000000000)(hK:∀ A' m c' h',h.le h'->m<=c'->Mw h' A' m (x*b64^n+y)->K (.slice A' m c') h'):aY prog 298 #[.slice A an ac,.slice B bn bc,I n] h K:=by
 obtain ⟨xs,rfl,z,w,F,rfl⟩:=ma
 obtain ⟨e,rfl,u,dy,D,rfl⟩:=mb
 refine (fnk func298) ?_
 have p:B9 ((n:Int)+xs.length)=((n+xs.length:Nat):Int):=by rw [B5 o o];omega
 rw [p]
 refine T6 Q6 o o o ?_
 intro b r
 rw [aC]
 refine ⟨_,_,_,rfl,?_⟩
 have j:=Win.blk .u64 194 r (aF (n+xs.length) 0)
 refine Cc Q6 j gz0 (u.mono j.le) rfl gz0 ?_
 intro E a
 refine ⟨_,rfl,⟨o,o⟩,?_⟩
 rw [bN] at a
 generalize hz:e++aF (n+xs.length-e.length) (0:Int)=zs at a
 have s:zs.length=n+xs.length:=gz0
 have q:=a.sub (l:=n) (m:=n+xs.length) (c:=n+xs.length) o o o
 refine Cc Q6 q gz0 (z.mono a.le) rfl gz0 ?_
 intro C i
 rw [aZ gz0,cD] at i
 have d:=a.whole (l:=n) (m:=n+xs.length) o o o i
 rw [aZ (show zs.length<=n+xs.length from o),cD] at d
 have g:zs.take n=e++aF (n-e.length) 0:=by
  rw [<- hz,List.take_append,aN o,cT]
  grind
 rw [g] at d
 refine ⟨_,rfl,Be d.sl ((dy.append (P4 dc _)).append w) gz0 rfl o o ?_⟩
 intro m k M
 refine ⟨_,_,_,rfl,hK _ _ _ _ d.le k ?_⟩
 rw [H1,Cm] at M
 grind
def B17{x y:Int}(hx:0<=x/\x<18446744073709551616)(hy:0<=y/\y<18446744073709551616)(hK:K (.tuple #[U (x*y/18446744073709551616),U (x*y%18446744073709551616)]) h):aY prog 197 #[U x,U y] h K:=by
 refine (fnk func197) ?_
 exact Md hx hy ⟨_,_,rfl,hK⟩
def A34{v:Int}{n:Nat}(s:SlI .u64 h A [v])(hn:0<n)(hl:n<=10000000000000)(hK:∀ A' h',h.le h'->SlI .u64 h' A' (aF n v)->K (.slice A' n n) h'):aY prog 314 #[.slice A 1 ac,I n] h K:=by
 refine (fnk func314 [(8,[8],[],[I 0])]) ?_
 refine B4 (fun d=>o) (fun _=>?_)
 rw [C3 (n:=((1:Nat):Int)) o o,C3 (n:=(n:Int)) o o]
 refine B17 o o ⟨_,_,rfl,?_⟩
 have B:((1:Nat):Int)*(n:Int)/18446744073709551616=0:=o
 have z:((1:Nat):Int)*(n:Int)%18446744073709551616=n:=o
 rw [B,z]
 refine B4 (fun d=>o) (fun _=>?_)
 refine B4 (fun d=>o) (fun _=>?_)
 rw [B5 (n:=(n:Int)) o o]
 refine T6 Q6 o o o ?_
 intro b r
 refine ⟨_,_,_,rfl,?_⟩
 have p:=Win.blk .u64 194 r (aF n 0)
 refine Cc Q6 p (by simp) (s.mono p.le) rfl gz0 ?_
 intro d g
 refine ⟨_,rfl,?_⟩
 rw [bN] at g
 refine ⟨fun l e=>∃ k:Nat,l=[I k]/\0<k/\k<=n/\Win .u64 e h b 194 (some ⟨b,0,none⟩) [] (aF k v++aF (n-k) 0) [],fun l _=>n-(iAt l 0).toNat,⟨1,rfl,o,hn,g⟩,?_⟩
 rintro i e ⟨k,D,x,a,w⟩
 obtain rfl:i=(k:Int):=gz0
 refine B4 (fun q=>?_) (fun q=>?_)
 ·have y:(aF k v++aF (n-k) (0:Int)).length=n:=gz0
  refine ⟨⟨o,o⟩,⟨o,o⟩,?_⟩
  simp only [aC,O7,cH]
  have E:=w.sub (l:=k) (m:=n) (c:=n) o o o
  have u:SlI .u64 e (some ⟨b,0,none⟩) (aF (min k (n-k)) v):=by
   have:=Iw w.sl (c:=n) (m:=min k (n-k)) o o
   grind
  refine B4b Q6 E (by simp) u (by simp) ?_
  intro H j
  rw [cI] at j ⊢
  have F:=w.whole (l:=k) (m:=n) o o (by simp;omega) j
  have C:B9 ((k:Int)+(min k (n-k):Nat))=((k+min k (n-k):Nat):Int):=by rw [B5 o o];omega
  refine ⟨_,rfl,?_⟩
  rw [C]
  refine ⟨⟨_,rfl,o,o,?_⟩,?_⟩
  ·have G:(aF k v++aF (n-k) (0:Int)).take k++(aF (min k (n-k)) v++(aF (n-k) (0:Int)).drop (min k (n-k)))++(aF k v++aF (n-k) (0:Int)).drop n=aF (k+min k (n-k)) v++aF (n-(k+min k (n-k))) 0:=by
    rw [dH (by simp),aZ (show (aF k v++aF (n-k) (0:Int)).length<=n from o),cD,bN,<- cJ,cY]
    grind
   grind
  ·simp only [iAt,aI];omega
 ·have a:k=n:=o
  subst a
  have:=w.sl
  rw [Nat.sub_self,List.replicate_zero,cD] at this
  exact hK _ _ w.le this
end
def Mw.high{h:bJ}{A:Option bU}{an ac k:Nat}{x:Int}(ma:Mw h A an x)(ha:an<=ac)(hk:k<=an):Mw h (U3 A ac k 1) (an-k) (x/b64^k):=by
 obtain ⟨xs,rfl,d,b,c,rfl⟩:=ma
 have e:=(Kr b k).1
 rw [aJ hk] at e
 rw [e,<- cC]
 refine Mw.of (Yx d hk ha) (b.drop _) ?_
 by_cases a:k<xs.length
 ·exact Mc c a
 ·rw [aZ o];exact Norm.nil
def B2e{x P X2 yh top:Int}(hP:0<P)(h1:x<P*P*(X2+1))(h2:P*top<=x)(hlt:X2<yh):top<P*yh:=by
 by_cases a:top<P*yh
 ·exact a
 ·have c:P*(P*yh)<=P*top:=aH o o
  have b:P*P*(X2+1)<=P*P*yh:=aH o (aR o o)
  grind
def B2f{x P X2 yh top:Int}(hP:0<P)(h1:P*P*X2<=x)(h2:x<P*(top+1))(hge:yh<=X2):P*yh<=top:=by
 by_cases a:P*yh<=top
 ·exact a
 ·have c:P*(top+1)<=P*(P*yh):=aH o o
  have b:P*P*yh<=P*P*X2:=aH o (aR o o)
  grind
def B6a(N:Nat):Prop:=∀ {h:bJ} {K:VP} {A B:Option bU} {ac bc an bn:Nat} {x y:Int},bn<=N->Mw h A an x->Mw h B bn y->an<=ac->bn<=bc->an<=19000000000000->bn<=9300000000000->0<bn->9223372036854775808*b64^(bn-1)<=y->x<b64^bn*y->
 (∀ A1 m1 c1 A2 m2 c2 h',h.le h'->m1<=c1->m2<=c2->Mw h' A1 m1 (x/y)->Mw h' A2 m2 (x%y)->K (.tuple #[.slice A1 m1 c1,.slice A2 m2 c2]) h')->aY prog 297 #[.slice A an ac,.slice B bn bc] h K
section
variable {h g:bJ} {K:VP} {A B:Option bU} {ac bc:Nat}
def Cu{x y:Int}:Bb x y<0↔x<y:=by
 unfold Bb
 omega
set_option maxHeartbeats 1000000 in
def A2o{x y q0 R0 pr:Int}{m bn nq cq np cp nr cr:Nat}{Aq Ap Ar:Option bU}(hx0:0<=x)(mb:Mw h B bn y)(hb:bn<=bc)(hl2:bn<=9300000000000)(hbm:bn=2*m)(mq:Mw h Aq nq q0)(hq:nq<=cq)(mp:Mw h Ap np pr)(hp2:pr<b64^bn)
 (mr:Mw h Ar nr R0) (hr:nr<=cr) (hq0:q0<b64^m) (hR:R0-pr=x-q0*y) (hy:x-q0*y<y)
 (hK:∀ A1 m1 c1 A2 m2 c2 h',h.le h'->m1<=c1->m2<=c2->Mw h' A1 m1 (x/y)->Mw h' A2 m2 (x%y)->K (.tuple #[.slice A1 m1 c1,.slice A2 m2 c2]) h'):
 Au prog B bn bc K Aq nq cq Ap np cp Ar nr cr h:=by
 have M:=mb.lt dc
 have O:=mb.nonneg dc
 have H:=mp.nonneg dc
 unfold Au
 refine ⟨fun l c=>∃ (Aq Ar:Option bU) (nq cq nr cr:Nat) (q R:Int),l=[.slice Aq nq cq,.slice Ar nr cr]/\h.le c/\Mw c Aq nq q/\nq<=cq/\Mw c Ar nr R/\nr<=cr/\q<b64^m/\R-pr=x-q*y/\x-q*y<y,fun l c=>match l with|[.slice A n _,_]=>B80 b64 c A n|_=>0,⟨_,_,_,_,_,_,_,_,rfl,B0 h,mq,hq,mr,hr,hq0,hR,hy⟩,?_⟩
 rintro A1 N c1 A2 Q c2 c ⟨Aq,Ar,nq,cq,nr,cr,q,R,w,e,mq,hq,mr,hr,hq0,hR,hy⟩
 simp only [cN,cW,and_true] at w
 obtain ⟨⟨rfl,rfl,rfl⟩,rfl,rfl,rfl⟩:=w
 have E:Q<=bn+1:=mr.len_le dc (by
  rw [bF]
  show R<b64^bn*18446744073709551616
  omega)
 have L:N<=m:=mq.len_le dc hq0
 refine G8 mr (mp.mono e) o ⟨_,rfl,?_⟩
 refine B4 (fun i=>?_) (fun i=>?_)
 ·rw [Cu] at i
  have C:=mq.nonneg dc
  have s:1<=q:=by
   by_cases S:1<=q
   ·exact S
   ·obtain rfl:q=0:=o
    omega
  refine T9 mr (mb.mono e) hr hb o o ?_
  intro A3 D c3 k d g M3
  refine ⟨_,_,_,rfl,Y5 Q6 rfl ?_⟩
  intro b r
  refine ⟨_,_,_,rfl,?_⟩
  have j:=Heap.le_put (.cells #[U 1] 194) r
  have M1:Mw (k.put b (.cells #[U 1] 194)) (some ⟨b,0,none⟩) 1 1:=⟨[1],rfl,SlI.new k b [1] 194 _,Dig.one dc,by simp [fB],Er _ _⟩
  refine I5 ((mq.mono d).mono j) M1 hq o s ?_
  intro A5 T W V u G M5
  refine ⟨_,_,_,rfl,⟨_,_,_,_,_,_,_,_,rfl,A0 e (A0 d (A0 j u)),M5,G,(M3.mono j).mono u,g,o,?_,?_⟩,?_⟩
  ·rw [Int.sub_mul];omega
  ·rw [Int.sub_mul];omega
  ·simp only [Hj M5,Hj mq];omega
 ·rw [Cu] at i
  refine I5 mr (mp.mono e) hr o o ?_
  intro A3 D c3 k d g M3
  obtain ⟨F,z⟩:=Yv (x:=x) (a:=R-pr) (b:=q) (p:=y) (by rw [hR,aV y];omega) o o
  refine ⟨_,_,_,rfl,hK _ _ _ _ _ _ _ (A0 e d) hq g ?_ ?_⟩
  ·rw [F];exact mq.mono d
  ·rw [z];exact M3
set_option maxHeartbeats 1000000 in
def Rs{N:Nat}(ih:B6a N){x y:Int}{an bn m:Nat}(hm:0<m)(hN:m<=N)(hbm:bn=2*m)(ma:Mw h A an x)(mb:Mw h B bn y)(ha:an<=ac)(hb:bn<=bc)(hl:an<=19000000000000)(hl2:bn<=9300000000000)(htop:9223372036854775808*b64^(bn-1)<=y)(hxy:x<b64^m*y)
 (hK:∀ A1 m1 c1 A2 m2 c2 h',h.le h'->m1<=c1->m2<=c2->Mw h' A1 m1 (x/y)->Mw h' A2 m2 (x%y)->K (.tuple #[.slice A1 m1 c1,.slice A2 m2 c2]) h'):aY prog 312 #[.slice A an ac,.slice B bn bc] h K:=by
 have ag:=ma.nonneg dc
 have a6:=mb.nonneg dc
 have ap:=mb.lt dc
 have p:=E9 (B:=b64) dc m
 have al:b64^bn=b64^m*b64^m:=by rw [<- aW];congr 1;omega
 have u:b64^(2*m)=b64^m*b64^m:=by rw [<- aW];congr 1;omega
 have aq:b64^(bn-1)=b64^m*b64^(m-1):=by rw [<- aW];congr 1;omega
 have az:an<=m+bn:=ma.len_le dc (by
  have i:b64^m*y<b64^m*b64^bn:=bY ap p
  rw [aW];omega)
 have a:=mb.high (k:=m) hb o
 rw [show bn-m=m from o] at a
 have d:=a.nonneg dc
 have ax:=a.lt dc
 have dy:b64^m*(y/b64^m)+y%b64^m=y:=aO _ _
 have X:=aT y (b:=b64^m) o
 have a3:=aL y p
 have dx:b64^m*(x/b64^m)+x%b64^m=x:=aO _ _
 have a5:=aT x (b:=b64^m) o
 have bd:=aL x p
 have a1:=E9 (B:=b64) dc (m-1)
 have af:9223372036854775808*b64^(m-1)<=y/b64^m:=by
  by_cases hc:9223372036854775808*b64^(m-1)<=y/b64^m
  ·exact hc
  ·have i:b64^m*(y/b64^m+1)<=b64^m*(9223372036854775808*b64^(m-1)):=aH o o
   have R:b64^m*(9223372036854775808*b64^(m-1))=9223372036854775808*(b64^m*b64^(m-1)):=gz0
   rw [aq] at htop
   rw [dG] at i
   omega
 obtain ⟨ys,am,sy,e,aa,rfl⟩:=mb
 have mb:Mw h B bn (val b64 ys):=⟨ys,am,sy,e,aa,rfl⟩
 generalize hyv:val b64 ys=y at *
 refine Qs _ _ _ _ _ _ ?_
 unfold Nf
 have eh:B9 (dJ ((bn:Nat):Int) 2)=(m:Int):=by rw [bC o,B5 o o];omega
 have ab:B9 (2*(m:Int))=((2*m:Nat):Int):=by rw [B5 o o];omega
 simp only [eh,ab,aC,cH,O7]
 rw [show bn-m=m from o]
 refine ⟨⟨o,o⟩,⟨o,o⟩,Be (Iw sy (m:=m) (c:=bc) o o) (e.take m) (by rw [aK];omega) rfl o o ?_⟩
 intro yn a9 Myl
 have w:=(Kr e m).2
 rw [aJ o,hyv] at w
 rw [<- w] at Myl
 refine ⟨_,_,_,rfl,B0 h,Ah ma ha ?_⟩
 intro A1 n1 c1 k1 a8 M1
 refine ⟨_,_,_,rfl,?_⟩
 have G:=M1.nonneg dc
 refine ⟨fun l V=>∃ (Aq Ar:Option bU) (T cq W cr:Nat) (q r:Int),l=[.slice Aq T cq,.slice Ar W cr]/\h.le V/\Mw V Aq T q/\T<=cq/\Mw V Ar W r/\W<=cr/\q<b64^m/\x/b64^m=q*(y/b64^m)+r/\x-q*y<y,?_,?_⟩
 ·refine Ah ma ha ?_
  intro A2 n2 c2 k2 a7 M2
  refine ⟨_,_,_,rfl,G8 M2 a o ⟨_,rfl,?_⟩⟩
  have au:b64^(2*m)*(x/b64^(2*m))+x%b64^(2*m)=x:=aO _ _
  have ae:=aT x (b:=b64^(2*m)) (by have:=E9 (B:=b64) dc (2*m);omega)
  have ad:=aL x (E9 (B:=b64) dc (2*m))
  generalize x/b64^(2*m)=X2 at *
  rw [u] at au ae ad
  refine B4 (fun S=>?_) (fun S=>?_)
  ·rw [Cu] at S
   have ht:=B2e (x:=x) (top:=x/b64^m) p (by rw [dG];omega) o S
   refine ih hN M1 a k1 o o o hm af ht ?_
   intro A3 n3 c3 A4 n4 c4 h3 s k3 k4 M3 M4
   have M:0<y/b64^m:=o
   have d1:=aO (x/b64^m) (y/b64^m)
   have d2:=aL (x/b64^m) M
   have d0:=M3.nonneg dc
   refine ⟨_,_,_,_,_,_,rfl,_,_,_,_,_,_,_,_,rfl,s,M3,k3,M4,k4,bG M ht,by rw [aV];omega,?_⟩
   generalize (x/b64^m)/(y/b64^m)=q at *
   generalize (x/b64^m)%(y/b64^m)=r at *
   generalize x/b64^m=top at *
   generalize y/b64^m=yh at *
   generalize y%b64^m=yl at *
   generalize x%b64^m=xl at *
   generalize b64^m=P at *
   have i:P*(r+1)<=P*yh:=aH o o
   have R:x-q*y=P*r+xl-q*yl:=by rw [<- dx,<- dy,<- d1];grind
   have t3:=aR d0 X
   rw [dG] at i
   omega
  ·rw [Cu] at S
   have ht:=B2f (x:=x) (top:=x/b64^m) (yh:=y/b64^m) (X2:=X2) p o (by rw [dG];omega) o
   refine Y5 Q6 rfl ?_
   intro b aj
   refine ⟨_,_,_,rfl,?_⟩
   have l4:=Heap.le_put (.cells #[U 18446744073709551615] 194) aj
   refine A34 (v:=18446744073709551615) (SlI.new h b [18446744073709551615] 194 _) hm o ?_
   intro A5 h5 D s5
   refine ⟨_,_,_,rfl,?_⟩
   have O:=A0 l4 D
   refine Ho (a.mono O) (Mag.zero (k:=.u64) (B:=b64)) o o ?_
   intro A6 n6 c6 h6 l6 k6 M6
   refine ⟨_,_,_,rfl,?_⟩
   have n:=A0 O l6
   refine I5 (M1.mono n) M6 k1 o (by rw [aV];omega) ?_
   intro A7 n7 c7 h7 C k7 M7
   have ba:n7<=an:=M7.len_le dc (by
    have:=ma.lt dc
    have i:=aR d (aQ p)
    have R:1*(x/b64^m)<=b64^m*(x/b64^m):=aE o G
    omega)
   refine ⟨_,_,_,rfl,?_⟩
   refine T9 M7 ((a.mono n).mono C) k7 o o o ?_
   intro A8 n8 c8 h8 l8 k8 M8
   have F:∀ j:Nat,val b64 (aF j 18446744073709551615)=b64^j-1:=by
    intro j
    induction j with
    | zero=>rfl
    | succ j ihj=>
     rw [List.replicate_succ,val,ihj,bF]
     show (18446744073709551615:Int)+18446744073709551616*(b64^j-1)=b64^j*18446744073709551616-1
     omega
   have M5:Mw h5 A5 m (b64^m-1):=by
    refine ⟨aF m 18446744073709551615,by simp,s5,?_,?_,F m⟩
    ·intro z hz
     have:=List.eq_of_mem_replicate hz
     subst this;decide
    ·obtain ⟨j,rfl⟩:∃ j,m=j+1:=⟨m-1,o⟩
     unfold fB
     rw [List.replicate_succ']
     simp
   refine ⟨_,_,_,rfl,_,_,_,_,_,_,_,_,rfl,A0 n (A0 C l8),((M5.mono l6).mono C).mono l8,bI _,M8,k8,o,?_,?_⟩
   ·grind
   ·have:(b64^m-1)*y=b64^m*y-y:=gz0
    omega
 ·rintro Aq' ai a2 Ar' ak ay V ⟨Aq,Ar,T,cq,W,cr,q,r,H,lh,Q,hq,mr,hr,g,ah,ao⟩
  simp only [cN,cW,and_true] at H
  obtain ⟨⟨rfl,rfl,rfl⟩,rfl,rfl,rfl⟩:=H
  have E:=Q.nonneg dc
  have a4:=mr.nonneg dc
  have bb:ai<=m:=Q.len_le dc g
  have a0:ak<=an:=mr.len_le dc (by
   have:=ma.lt dc
   have i:=aR E d
   have R:1*(x/b64^m)<=b64^m*(x/b64^m):=aE o G
   omega)
  refine F4 Q (Myl.mono lh) hq o o o ?_
  intro A3 n3 c3 h3 s k3 M3
  refine ⟨_,_,_,rfl,Fb (ma.mono (A0 lh s)) ha o ?_⟩
  intro A4 n4 c4 k4 ar av M4
  refine ⟨_,_,_,rfl,Ho (mr.mono s) M4 ar o ?_⟩
  intro A5 n5 c5 h5 D k5 M5
  have L:=A0 lh (A0 s D)
  refine ⟨_,_,_,rfl,A2o (q0:=q) (m:=m) ag (mb.mono L) hb hl2 hbm ((Q.mono s).mono D) hq (M3.mono D) ?_ M5 k5 g ?_ ao ?_⟩
  ·rw [al]
   have i:q*(y%b64^m)<=q*b64^m:=aH o E
   have R:q*b64^m<b64^m*b64^m:=bK g p
   omega
  ·generalize x/b64^m=top at *
   generalize y/b64^m=yh at *
   generalize y%b64^m=yl at *
   generalize x%b64^m=xl at *
   generalize b64^m=P at *
   rw [<- dx,<- dy,ah];grind
  ·intro A6 n6 c6 A7 n7 c7 h7 C k6 k7 M6 M7
   exact hK _ _ _ _ _ _ _ (A0 L C) k6 k7 M6 M7
end
set_option maxHeartbeats 1000000 in
def C23:∀ N,B6a N:=by
 intro N
 induction N with
 | zero=>intro h K A B X O an d x y h1 _ _ _ _ _ _ z;omega
 | succ N ih=>
  intro h K A B X O an d x y hN n i F q hl k ad g j hK
  have aa:=n.nonneg dc
  have ag:=i.nonneg dc
  have e:0<y:=by
   have:=E9 (B:=b64) dc (d-1);omega
  refine (fnk func297) ?_
  have c:aY prog 252 #[.slice A an X,.slice B d O] h (fun r hp=>∃ (t22aA:Option bU) (t22an:Nat) (t22ac:Nat) (t22bA:Option bU) (t22bn:Nat) (t22bc:Nat),r= .tuple #[.slice t22aA t22an t22ac,.slice t22bA t22bn t22bc]/\K (.tuple #[.slice t22aA t22an t22ac,.slice t22bA t22bn t22bc]) hp):=by
   refine Ea n i F q o o o ?_
   intro A1 m1 c1 A2 m2 c2 h' l G R M1 M2
   exact ⟨_,_,_,_,_,_,rfl,hK _ _ _ _ _ _ _ l G R M1 M2⟩
  refine B4 (fun h1=>c) (fun h1=>?_)
  refine D6 (fun z=>c) (fun z=>?_)
  rw [cO o] at z
  obtain ⟨m,hbm⟩:∃ m,d=2*m:=⟨d/2,o⟩
  have eh:B9 (dJ ((d:Nat):Int) 2)=(m:Int):=by rw [bC o,B5 o o];omega
  simp only [eh]
  have W:=E9 (B:=b64) dc m
  have C:b64^d=b64^m*b64^m:=by rw [<- aW];congr 1;omega
  have dx:b64^m*(x/b64^m)+x%b64^m=x:=aO _ _
  have af:=aT x (b:=b64^m) o
  have aj:=aL x W
  rw [C] at j
  refine Ah n F ?_
  intro A1 n1 c1 G ah M1
  refine ⟨_,_,_,rfl,?_⟩
  have M:x/b64^m<b64^m*y:=by
   by_cases hc:x/b64^m<b64^m*y
   ·exact hc
   ·have E:b64^m*(b64^m*y)<=b64^m*(x/b64^m):=aH o o
    rw [dE] at j
    omega
  refine Rs ih o o hbm M1 i G q o k g M ?_
  intro A2 n2 c2 A3 n3 c3 h3 s R k3 M2 M3
  refine ⟨_,_,_,_,_,_,rfl,Fb (n.mono s) F o ?_⟩
  intro A4 n4 c4 k4 L T M4
  have d1:=aO (x/b64^m) y
  have d2:=aL (x/b64^m) e
  have d3:=aT (x/b64^m) (b:=y) o
  have H:x/b64^m/y<b64^m:=bG e M
  have ab:n3<=d:=M3.len_le dc (by have:=i.lt dc;omega)
  have ai:n2<=m:=M2.len_le dc H
  refine ⟨_,_,_,rfl,Ho M3 M4 L o ?_⟩
  intro A5 n5 c5 h5 u k5 M5
  refine ⟨_,_,_,rfl,?_⟩
  have S:(x/b64^m)%y*b64^m+x%b64^m<b64^m*y:=by
   have E:b64^m*((x/b64^m)%y+1)<=b64^m*y:=aH o o
   rw [dG,aV] at E
   omega
  have ae:n5<=d+m:=M5.len_le dc (by
   have E:b64^m*y<b64^m*b64^d:=bY (i.lt dc) W
   rw [Nat.add_comm,aW];omega)
  refine Rs ih o o hbm M5 (i.mono (A0 s u)) k5 q o k g S ?_
  intro A6 n6 c6 A7 n7 c7 h7 Q k6 k7 M6 M7
  have D:n6<=m:=M6.len_le dc (bG e S)
  refine ⟨_,_,_,_,_,_,rfl,Ho ((M2.mono u).mono Q) M6 D o ?_⟩
  intro A8 n8 c8 h8 V k8 M8
  refine ⟨_,_,_,rfl,?_⟩
  have e1:=aO ((x/b64^m)%y*b64^m+x%b64^m) y
  have e2:=aL ((x/b64^m)%y*b64^m+x%b64^m) e
  have e3:=aT ((x/b64^m)%y*b64^m+x%b64^m) (b:=y) o
  have M7':=M7.mono V
  have w:=A0 s (A0 u (A0 Q V))
  generalize ((x/b64^m)%y*b64^m+x%b64^m)/y=q2 at *
  obtain ⟨f1,f2⟩:=Yv (x:=x) (a:=((x/b64^m)%y*b64^m+x%b64^m)%y) (b:=x/b64^m/y*b64^m+q2) (p:=y) (by
   generalize ((x/b64^m)%y*b64^m+x%b64^m)%y=r2 at *
   generalize x/b64^m/y=q1 at *
   generalize x/b64^m%y=r1 at *
   generalize x/b64^m=top at *
   generalize x%b64^m=xl at *
   generalize b64^m=P at *
   grind) e3 e2
  refine hK _ _ _ _ _ _ _ w k8 k7 ?_ ?_
  ·rw [f1];exact M8
  ·rw [f2];exact M7'
def Vr{ys:List Int}{k t s:Nat}(dy:Dig b64 ys)(hk:ys.length=k+1)(ht:ys.getD k 0=(t:Int))(ht0:t≠0)(hs:s=64-V6 t):s<64/\val b64 ys*2^s<b64^(k+1)/\9223372036854775808*b64^k<=val b64 ys*2^s:=by
 have w:=Q4 dy k
 obtain ⟨d,a⟩:=Il (B:=b64) dc dy (m:=k) hk
 rw [ht] at w d a
 obtain ⟨q,p⟩:=Ed ht0
 have n:V6 t<=64:=Hx (k:=64) o
 have r:1<=V6 t:=gz0
 have g:s<64:=o
 have b:0<(2:Int)^s:=bO dc
 have i:=Ak (s:=s) o
 have l:(t:Int)+1<=2^(64-s):=by
  grind
 have j:(2:Int)^(63-s)<=t:=by
  grind
 have e:(2:Int)^s*2^(63-s)=9223372036854775808:=by
  rw [<- aW,show s+(63-s)=63 from o];decide
 have c:=E9 (B:=b64) dc k
 refine ⟨g,?_,?_⟩
 ·have u:val b64 ys*2^s<((t:Int)+1)*b64^k*2^s:=bK d b
  have y:((t:Int)+1)*2^s*b64^k<=18446744073709551616*b64^k:=by
   apply aE _ (aQ c)
   rw [<- i,aV (2^s)]
   exact aE l (aQ b)
  grind
 ·have x:(t:Int)*b64^k*2^s<=val b64 ys*2^s:=aE a (aQ b)
  have u:9223372036854775808*b64^k<=(t:Int)*2^s*b64^k:=by
   apply aE _ (aQ c)
   rw [<- e,aV (t:Int)]
   exact aH j o
  grind
section
variable {h g:bJ} {K:VP} {A B:Option bU} {ac bc:Nat}
set_option maxHeartbeats 1000000 in
def A3y{D V a b:Int}{S sh dn dc vc bn bq:Nat}{pieces t46:Int}{DA VA:Option bU}(hS:B9 ((B9 (dJ (B9 ((B9 (((bn:Nat):Int)+pieces))-(1:Int))) pieces))*pieces)=(S:Int))
 (hsh:C6 (B9 ((B9 ((64:Int)*(B9 ((S:Int)-((bn:Nat):Int)))))+t46))=(sh:Int)) (hS0:0<S) (hS2:S<=9300000000000) (hsh2:sh<=100000000000000) (hb:h bq=none) (hD:Mw h DA dn D) (hdc:dn<=dc) (hdn:0<dn) (hdl:dn<=9400000000000) (hV:Mw h VA S V) (hvc:S<=vc) (hVt:9223372036854775808*b64^(S-1)<=V)
 (hDa:D=a*2^sh) (hVb:V=b*2^sh)
 (hK:∀ A1 m1 c1 A2 m2 c2 h',h.le h'->m1<=c1->m2<=c2->Mw h' A1 m1 (a/b)->Mw h' A2 m2 (a%b)->K (.tuple #[.slice A1 m1 c1,.slice A2 m2 c2]) h'):
 Az prog bn K pieces t46 VA S vc DA dn dc (some ⟨bq,0,none⟩) (dn+S) (dn+S) (blk .u64 194 h bq (aF (dn+S) 0)):=by
 have O:=hD.nonneg (by decide)
 have aj:=hD.lt (by decide)
 have N:=hV.lt (by decide)
 have s:0<V:=by have:=E9 (B:=b64) (by decide) (S-1);omega
 have hp:0<(2:Int)^sh:=bO (by decide)
 have hQ:=E9 (B:=b64) (by decide) S
 unfold Az
 simp only [hS,hsh]
 obtain ⟨nb,hnb⟩:∃ nb,nb=(dn-1)/S:=⟨_,rfl⟩
 have al:nb*S<=dn-1:=by rw [hnb];exact Nat.div_mul_le_self _ _
 have ak:dn-1<nb*S+S:=by
  have X:=eF (dn-1) S
  have h2:=fL (dn-1) hS0
  rw [<- hnb,fV] at X
  omega
 have e1:B9 (B9 (dJ (B9 ((dn:Int)-1)) (S:Int))*(S:Int))=((nb+1:Nat):Int)*S-S:=by
  rw [B5 (n:=(dn:Int)-1) o o,show (dn:Int)-1=((dn-1:Nat):Int) from o,<- Int.ofNat_tdiv,<- hnb]
  have:nb<=dn-1:=by rw [hnb];exact fH _ _
  have h3:(nb:Int)*(S:Int)=((nb*S:Nat):Int):=by simp
  rw [B5 (n:=(nb:Int)) o o,h3,B5 o o,eJ,Int.add_mul,h3]
  omega
 refine ⟨fun l hp=>∃ (j n c:Nat) (A:Option bU) (d:List Int) (r:Int) (g:bJ),l=[.slice A n c,I ((j:Int)*S-S)]/\h.le g/\j*S+d.length=dn+S/\Dig b64 d/\Win .u64 hp g bq 194 (some ⟨bq,0,none⟩) [] (aF (j*S) 0++d) []/\Mw g A n r/\n<=c/\r=(D/b64^(j*S))%V/\val b64 d=(D/b64^(j*S))/V,fun l _=>(iAt l 1+S).toNat,⟨nb+1,0,0,none,aF (dn-1+1-nb*S) 0,0,h,by rw [e1],B0 h,?_,P4 (by decide) _,?_,Mag.zero,bI _,?_,?_⟩,?_⟩
 ·rw [cI,dR,dP];omega
 ·rw [cY,show (nb+1)*S+(dn-1+1-nb*S)=dn+S by rw [dR,dP];omega]
  exact Win.blk .u64 194 hb _
 ·have:=D5 (B:=b64) (by decide) (show dn<=(nb+1)*S by rw [dR,dP];omega)
  rw [bL O o,fP]
 ·have:=D5 (B:=b64) (by decide) (show dn<=(nb+1)*S by rw [dR,dP];omega)
  rw [bL O o,Int.zero_ediv,Dl]
 rintro A1 n1 c1 st a1 ⟨j,n,c,A',d,r,g,R,lg,y,M,w,Mr,av,C,k⟩
 simp only [cN,cW,fG,and_true,true_and] at R
 obtain ⟨⟨rfl,rfl,rfl⟩,rfl⟩:=R
 refine B4 (fun X=>?_) (fun X=>?_)
 ·obtain ⟨i,rfl⟩:∃ i,j=i+1:=⟨j-1,by
   rcases j with _|j
   ·simp at X;omega
   ·rfl⟩
  obtain ⟨e,he⟩:∃ e,e=i*S:=⟨_,rfl⟩
  have F:(i+1)*S=e+S:=by rw [he,dR,dP]
  have ae:((i+1:Nat):Int)*(S:Int)-(S:Int)=(e:Int):=by rw [<- cF,F];omega
  rw [F] at y w C k
  rw [ae]
  have a2:=E9 (B:=b64) (by decide) e
  refine w.call (Ah (hD.mono lg) hdc ?_)
  intro A2 n2 c2 k2 a0 M2 h2 w2
  refine ⟨_,_,_,rfl,w2.call (Fb M2 k2 o ?_)⟩
  intro A3 n3 c3 k3 ag ai M3 h3 w3
  have au:=Mr.nonneg (by decide)
  have am:r<V:=by rw [C];exact aL _ s
  have an:n1<=S:=Mr.len_le (by decide) o
  refine ⟨_,_,_,rfl,w3.call (Ho Mr M3 ag o ?_)⟩
  intro A4 n4 c4 g4 l4 k4 M4 h4 w4
  have ab:D/b64^(e+S)=D/b64^e/b64^S:=by rw [aW,dX o]
  rw [ab] at C k
  have dm:=aO (D/b64^e) (b64^S)
  have ar:=aT (D/b64^e) (b:=b64^S) o
  have ay:=aL (D/b64^e) hQ
  generalize hD1:D/b64^e=D1 at *
  have u:r*b64^S+D1%b64^S<b64^S*V:=by
   have t1:b64^S*(r+1)<=b64^S*V:=aH o o
   rw [dG,aV] at t1
   omega
  have az:n4<=S+S:=M4.len_le (by decide) (by
   have t1:b64^S*V<b64^S*b64^S:=bY N hQ
   rw [aW];omega)
  have E:=A0 lg l4
  refine ⟨_,_,_,rfl,w4.call (C23 S (bI _) M4 (hV.mono E) k4 hvc o hS2 hS0 hVt u ?_)⟩
  intro A5 n5 c5 A6 n6 c6 g6 l6 k5 k6 M5 M6 h6 w6
  have aq:n5<=S:=M5.len_le (by decide) (bG s u)
  refine ⟨_,_,_,_,_,_,rfl,⟨o,o⟩,?_⟩
  rw [aC]
  have ac:aF (e+S) (0:Int)++d=aF e 0++(aF S 0++d):=by rw [<- cJ,cY]
  rw [ac] at w6
  have ao:(aF e (0:Int)++(aF S 0++d)).length=dn+S:=by simp only [aX,cI];omega
  have w7:=w6.sub (l:=e) (m:=dn+S) (c:=dn+S) o o o
  have e7:((aF e (0:Int)++(aF S 0++d)).drop e).take (dn+S-e)=aF S 0++d:=by
   rw [fJ (by simp),aN (by simp only [aX,cI];omega)]
  rw [e7] at w7
  obtain ⟨z,G,ad,ah,ax,L⟩:=M5
  refine Cc Q6 w7 (by simp only [aX,cI];omega) (ad.mono w6.le) G (by simp only [aX,cI];omega) ?_
  intro h8 w8
  rw [dF (by simp;omega),bN,<- cJ z] at w8
  have q:(z++aF (S-z.length) (0:Int)).length=S:=by simp;omega
  have w9:=w6.whole (l:=e) (m:=dn+S) o o (by rw [aX,q];omega) w8
  rw [dH (by simp),aZ (show (aF e (0:Int)++(aF S 0++d)).length<=dn+S from o),cD] at w9
  have e8:B9 ((e:Int)-(S:Int))=((i:Nat):Int)*S-S:=by
   rw [B5 o o,he,cF]
  have ap:=aO (r*b64^S+D1%b64^S) V
  have H:=aT (r*b64^S+D1%b64^S) (b:=V) o
  have T:=aL (r*b64^S+D1%b64^S) s
  have aa:=aO (D1/b64^S) V
  rw [<- C,<- k] at aa
  obtain ⟨f1,f2⟩:=Yv (x:=D1) (a:=(r*b64^S+D1%b64^S)%V) (b:=val b64 z+b64^S*val b64 d) (p:=V) (by
   rw [L]
   generalize (r*b64^S+D1%b64^S)%V=r2 at *
   generalize hq2:(r*b64^S+D1%b64^S)/V=q2 at *
   generalize D1%b64^S=bl at *
   generalize D1/b64^S=D2 at *
   generalize b64^S=Q at *
   generalize val b64 d=W at *
   grind) H T
  refine ⟨_,rfl,?_⟩
  rw [e8]
  refine ⟨⟨i,_,_,_,(z++aF (S-z.length) 0)++d,_,g6,rfl,A0 E l6,?_,?_,?_,M6,k6,?_,?_⟩,?_⟩
  ·rw [aX,q];omega
  ·exact (ah.append (P4 (by decide) _)).append M
  ·rw [<- he];exact w9
  ·rw [<- he,hD1,f2]
  ·rw [<- he,hD1,f1,H1,q,Cm]
  ·simp only [iAt,aP,aI]
   rw [<- cF,<- he]
   omega
 ·obtain rfl:j=0:=by
   rcases j with _|j
   ·rfl
   ·rw [<- cF,dR,dP] at X
    omega
  rw [fS,List.replicate_zero,cM] at w
  rw [fS,gC,Int.ediv_one] at C k
  rw [fS,fT] at y
  have af:0<b:=by
   by_cases hc:0<b
   ·exact hc
   ·have:=aE (show b<=0 from o) (aQ hp);omega
  obtain ⟨f1,f2⟩:=Yv (x:=D) (a:=(a%b)*2^sh) (b:=a/b) (p:=V) (by
   have:=aO a b
   rw [hDa,hVb]
   conv=>rhs;rw [<- this]
   grind) (aR (aT _ o) o) (by rw [hVb];exact bK (aL _ af) hp)
  refine Be w.sl M y.symm k o o ?_
  intro m2 k2 M2
  refine ⟨_,_,_,rfl,?_⟩
  refine Ff (Mr.mono w.le) (by have:=Mr.len_le (j:=S) (by decide) (by have:=aL D s;omega);omega) o ?_
  intro A3 n3 c3 h3 l3 k3 M3
  rw [C,f2,eU _ o] at M3
  rw [f1] at M2
  exact ⟨_,_,_,rfl,hK _ _ _ _ _ _ _ (A0 lg (A0 w.le l3)) k2 k3 (M2.mono l3) M3⟩
set_option maxHeartbeats 1000000 in
def Ox{x y:Int}{an bn:Nat}(ma:Mw h A an x)(mb:Mw h B bn y)(ha:an<=ac)(hbc:bn<=bc)(hl:an<=9000000000000)(hl2:bn<=9000000000000)(ha0:0<an)(hb0:0<bn)
 (hK:∀ A1 m1 c1 A2 m2 c2 h',h.le h'->m1<=c1->m2<=c2->Mw h' A1 m1 (x/y)->Mw h' A2 m2 (x%y)->K (.tuple #[.slice A1 m1 c1,.slice A2 m2 c2]) h'):aY prog 251 #[.slice A an ac,.slice B bn bc] h K:=by
 have aj:=ma.nonneg dc
 have af:=ma.len_zero dc
 have m:=ma.lt dc
 refine Qu _ _ _ _ _ _ ?_
 unfold Ni Ih
 refine ⟨fun l hp=>hp=h/\∃ p:Nat,l=[I p]/\0<p/\p<=bn/\(p=1\/39*p<=bn),fun l _=>bn-(iAt l 0).toNat,⟨rfl,1,rfl,o,o,.inl rfl⟩,?_⟩
 rintro C hp ⟨rfl,p,X,r,ad,aa⟩
 obtain rfl:=sI1 X
 have e1:B9 (dJ (B9 (B9 ((bn:Int)+(p:Int))-1)) (p:Int))=(((bn+p-1)/p:Nat):Int):=by
  rw [B5 (n:=(bn:Int)+p) o o,B5 (n:=(bn:Int)+p-1) o o,show (bn:Int)+p-1=((bn+p-1:Nat):Int) from o,<- Int.ofNat_tdiv]
  have:(bn+p-1)/p<=bn+p-1:=fH _ _
  generalize (bn+p-1)/p=q at *
  rw [B5 o o]
 refine B4 (fun d=>o) (fun _=>?_)
 obtain ⟨S,hS⟩:∃ S,S=(bn+p-1)/p*p:=⟨_,rfl⟩
 have ag:bn<=S/\S<=bn+p-1:=by
  have d:=eF (bn+p-1) p
  have E:=fL (bn+p-1) r
  rw [fV,<- hS] at d
  omega
 have e2:B9 ((B9 (dJ (B9 (B9 ((bn:Int)+(p:Int))-1)) (p:Int)))*(p:Int))=(S:Int):=by
  rw [e1,<- cF,<- hS,B5 o o]
 refine B4 (fun d=>?_) (fun d=>?_)
 ·rw [e1] at d
  have E:80<=(bn+p-1)/p:=o
  rw [Nat.le_div_iff_mul_le r] at E
  have Q:B9 ((p:Int)*2)=((p*2:Nat):Int):=by rw [B5 o o];omega
  rw [Q]
  exact ⟨⟨rfl,_,rfl,o,o,.inr o⟩,by simp only [iAt,aI];omega⟩
 ·refine B4 (fun d=>o) (fun _=>?_)
  obtain ⟨k,hk⟩:∃ k,bn=k+1:=⟨bn-1,o⟩
  have T:=mb
  obtain ⟨a,N,sy,dy,ny,rfl⟩:=mb
  have c:a.length=k+1:=o
  have gt:=Q4 dy k
  have R:=A7u c ny
  have Q:B9 ((bn:Int)-1)=(k:Int):=by rw [B5 o o];omega
  rw [Q]
  subst N
  refine sy.load rfl o o ?_
  rw [aC]
  obtain ⟨t,ht⟩:∃ t:Nat,a.getD k 0=t:=⟨(a.getD k 0).toNat,o⟩
  rw [ht] at gt R ⊢
  refine T3 o ⟨_,rfl,?_⟩
  obtain ⟨s,hs⟩:∃ s,s=64-V6 t:=⟨_,rfl⟩
  rw [<- hs]
  obtain ⟨ab,O,M⟩:=Vr dy c ht o hs
  simp only [e2]
  obtain ⟨sh,hsh⟩:∃ sh,sh=64*(S-a.length)+s:=⟨_,rfl⟩
  have e4:C6 (B9 (B9 (64*B9 ((S:Int)-(a.length:Int)))+(s:Int)))=(sh:Int):=by
   rw [B5 (n:=(S:Int)-(a.length:Int)) o o,B5 (n:=64*((S:Int)-(a.length:Int))) o o,B5 o o,C3 o o]
   omega
  simp only [e4]
  have g:(2:Int)^sh=2^s*b64^(S-a.length):=by rw [hsh,aW,Ha,aV]
  have i:=E9 (B:=b64) dc (S-a.length)
  have ai:0<(2:Int)^s:=bO dc
  have j:0<(2:Int)^sh:=bO dc
  have ae:val b64 a*2^sh=val b64 a*2^s*b64^(S-a.length):=by rw [g,dE]
  have F:val b64 a*2^sh<b64^S:=by
   have z:val b64 a*2^s*b64^(S-a.length)<b64^(k+1)*b64^(S-a.length):=bK O i
   rw [<- aW,show k+1+(S-a.length)=S from o] at z
   omega
  have W:9223372036854775808*b64^(S-1)<=val b64 a*2^sh:=by
   have z:9223372036854775808*b64^k*b64^(S-a.length)<=val b64 a*2^s*b64^(S-a.length):=aE M (aQ i)
   rw [dE,<- aW,show k+(S-a.length)=S-1 from o] at z
   omega
  refine R8 T hbc o o ?_
  intro A1 b c1 d l1 k1 M1
  refine ⟨_,_,_,rfl,?_⟩
  have H:b=S:=by
   have q1:=M1.len_le dc F
   have q2:=M1.lt dc
   by_cases hc:b=S
   ·exact hc
   ·have:=D5 (B:=b64) dc (show b<=S-1 from o)
    have:=E9 (B:=b64) dc (S-1)
    omega
  subst H
  refine R8 (ma.mono l1) ha o o ?_
  intro A2 w c2 E l2 k2 M2
  refine ⟨_,_,_,rfl,?_⟩
  have ah:w<=an+(1+(b-a.length)):=M2.len_le dc (by
   have z:x*2^sh<b64^an*2^sh:=bK m j
   have t2:(2:Int)^sh<=b64^(1+(b-a.length)):=by
    rw [g,aW]
    apply aE _ (aQ i)
    have:=D5 (B:=2) dc (show s<=64 from o)
    have e:(2:Int)^64=18446744073709551616:=dc
    show (2:Int)^s<=b64^1
    rw [bF,gC]
    show (2:Int)^s<=1*18446744073709551616
    omega
   have t3:b64^an*2^sh<=b64^an*b64^(1+(b-a.length)):=aH t2 (aQ (E9 dc an))
   rw [aW b64 an]
   omega)
  have u:0<w:=by
   rcases Nat.eq_zero_or_pos w with G|G
   ·have:=(M2.len_zero dc).2 G
    rcases Int.mul_eq_zero.1 this with h3|h3<;>omega
   ·exact G
  have e5:B9 ((w:Int)+(b:Int))=((w+b:Nat):Int):=by rw [B5 o o];omega
  rw [e5]
  refine T6 Q6 o o o ?_
  intro bq L
  rw [aC]
  refine ⟨_,_,_,rfl,?_⟩
  refine B4 (fun d=>o) (fun _=>?_)
  refine A3y (D:=x*2^sh) (V:=val b64 a*2^sh) (sh:=sh) (S:=b) e2 e4 o o o L M2 k2 u o (M1.mono l2) k1 W rfl rfl ?_
  intro A3 n3 c3 A4 n4 c4 h4 l4 k3 k4 M3 M4
  exact hK _ _ _ _ _ _ _ (A0 l1 (A0 l2 l4)) k3 k4 M3 M4
def V4{x y:Int}{an bn:Nat}(ma:Mw h A an x)(mb:Mw h B bn y)(ha:an<=ac)(hbc:bn<=bc)(hy:y≠0)(hl:an<=9000000000000)(hl2:bn<=9000000000000)
 (hK:∀ A1 m1 c1 A2 m2 c2 h',h.le h'->m1<=c1->m2<=c2->Mw h' A1 m1 (x/y)->Mw h' A2 m2 (x%y)->K (.tuple #[.slice A1 m1 c1,.slice A2 m2 c2]) h'):aY prog 190 #[.slice A an ac,.slice B bn bc] h K:=by
 refine (fnk func190) ?_
 have a:aY prog 252 #[.slice A an ac,.slice B bn bc] h (fun r c=>∃ (t22aA:Option bU) (t22an:Nat) (t22ac:Nat) (t22bA:Option bU) (t22bn:Nat) (t22bc:Nat),r= .tuple #[.slice t22aA t22an t22ac,.slice t22bA t22bn t22bc]/\K (.tuple #[.slice t22aA t22an t22ac,.slice t22bA t22bn t22bc]) c):=by
  refine Ea ma mb ha hbc hy o o ?_
  grind
 refine B4 (fun d=>B4 (fun b=>?_) (fun _=>a)) (fun _=>a)
 rw [B5 o o] at b
 refine Ox ma mb ha hbc hl hl2 o o ?_
 grind
end
def TZ(x k:Nat):Prop:=∃ m,x=2^k*(2*m+1)
def TZ.ex:∀ {x:Nat},x≠0->∃ k,TZ x k:=by
 intro x
 induction x using Nat.strongRecOn with
 | _ x ih=>
  intro h
  rcases Nat.mod_two_eq_zero_or_one x with b|b
  ·obtain ⟨k,m,a⟩:=ih (x/2) o o
   refine ⟨k+1,m,?_⟩
   rw [fU,fV (2^k),eV,<- a];omega
  ·exact ⟨0,x/2,o⟩
def TZ.lt{x k n:Nat}(h:TZ x k)(hx:x<2^n):k<n:=by
 obtain ⟨m,rfl⟩:=h
 have b:2^k*1<=2^k*(2*m+1):=Nat.mul_le_mul_left _ o
 exact (Nat.pow_lt_pow_iff_right (a:=2) dc).1 o
def A95{a u v:Nat}:(2^a*u) ||| (2^a*v)=2^a*(u ||| v):=by
 apply Nat.eq_of_testBit_eq
 grind
def B5m{u v:Nat}(h:u%2=1\/v%2=1):(u ||| v)%2=1:=by simp_all
def TZ.or'{x y a b:Nat}(hx:TZ x a)(hy:TZ y b)(hab:a<=b):TZ (x ||| y) a/\TZ (y ||| x) a:=by
 obtain ⟨m,rfl⟩:=hx
 obtain ⟨n,rfl⟩:=hy
 obtain ⟨d,rfl⟩:∃ d,b=a+d:=⟨b-a,o⟩
 rw [Nat.pow_add,eV,A95,A95]
 have c:=B5m (u:=2*m+1) (v:=2^d*(2*n+1)) (.inl o)
 have e:=B5m (u:=2^d*(2*n+1)) (v:=2*m+1) (.inr o)
 exact ⟨⟨_/2,by rw [<- eF (_ ||| _) 2,c]⟩,⟨_/2,by rw [<- eF (_ ||| _) 2,e]⟩⟩
def TZ.or{x y a b:Nat}(hx:TZ x a)(hy:TZ y b):TZ (x ||| y) (min a b):=by
 by_cases h:a<=b
 ·rw [aJ h];exact (hx.or' hy h).1
 ·rw [fC o];exact (hy.or' hx o).2
def TZ.bit{x k:Nat}(h:TZ x k)(hx:x<2^64):x &&& (2^64-x)=2^k:=by
 obtain ⟨m,rfl⟩:=h
 have g:0<2^k:=dO dc
 have a:2^k*(2*m+1)=2^k*(2*m)+(2^k-1)+1:=gz0
 apply Nat.eq_of_testBit_eq
 intro i
 rw [Nat.testBit_and]
 have e:(2^64-2^k*(2*m+1)).testBit i=(decide (i<64) && !(2^k*(2*m)+(2^k-1)).testBit i):=by
  rw [a];exact Nat.testBit_two_pow_sub_succ o i
 rw [e,Nat.testBit_two_pow_mul_add _ o,Nat.testBit_two_pow_mul,Nat.testBit_two_pow]
 by_cases j:i<k
 ·grind
 ·by_cases b:i=k
  ·subst b
   have c:i<64:=TZ.lt ⟨m,rfl⟩ hx
   grind
  ·obtain ⟨d,hd⟩:∃ d,i-k=d+1:=⟨i-k-1,o⟩
   grind
def Wu{o k:Nat}(h:o%2=1):Nat.Coprime (2^k) o:=Nat.Coprime.pow_left k (by unfold Nat.Coprime;rw [Nat.gcd_rec,h];rfl)
def B8c{x y a b m:Nat}(hx:x=2^a*(2*m+1))(hy:TZ y b):dD x y=2^(min a b)*dD (2*m+1) y:=by
 obtain ⟨n,rfl⟩:=hy
 subst hx
 have c:dD (2*m+1) (2^b*(2*n+1))=dD (2*m+1) (2*n+1):=cP (2*n+1) (Wu o)
 rw [c]
 by_cases h:a<=b
 ·obtain ⟨d,rfl⟩:∃ d,b=a+d:=⟨b-a,o⟩
  rw [aJ h,Nat.pow_add,eV,Nat.gcd_mul_left,cP _ (Wu o)]
 ·obtain ⟨d,rfl⟩:∃ d,a=b+d:=⟨a-b,o⟩
  rw [fC o,Nat.pow_add,eV,Nat.gcd_mul_left,Nat.Coprime.gcd_mul_left_cancel _ (Wu o)]
def A2m(k:Nat):Nat:=(2^k*285870213051353865%18446744073709551616)/2^58
def Gtz(h:bJ):Prop:=∀ k,k<64->h.cell? (eS ⟨1,0,none⟩ (A2m k*1))=some (Y k)
def Gtz.mono{h h':bJ}(g:Gtz h)(l:h.le h'):Gtz h':=fun k a=>B7 l (g k a)
section
variable {h g:bJ} {K:VP} {A B:Option bU} {ac bc:Nat}
def Jt{x k:Nat}(gl:Gtz h)(tz:TZ x k)(hx:x<18446744073709551616)(hK:K (I k) h):aY prog 255 #[U x] h K:=by
 have a:=tz.lt (n:=64) hx
 have d:x≠0:=by
  obtain ⟨m,rfl⟩:=tz
  grind
 refine Kl _ ?_
 refine C8 (fun e=>o) (fun _=>?_)
 have b:C6 (0-(x:Int))=((2^64-x:Nat):Int):=by
  rw [J0];omega
 have g:A5f .u64 (x:Int) ((2^64-x:Nat):Int)=((2^k:Nat):Int):=by
  rw [B1c o o,aC,aC,tz.bit hx]
 have c:dN (C6 (((2^k:Nat):Int)*285870213051353865)) (2^(min ((58:Int)).toNat 64))=((A2m k:Nat):Int):=by
  show dN _ (2^(min 58 64))=_
  rw [B1z dc,J0]
  rfl
 rw [b,g,c,aC]
 have i:A2m k<64:=by
  unfold A2m
  omega
 refine ⟨⟨o,o⟩,_,gl k a,?_⟩
 rw [B5 o o]
 exact hK
def A1f{x y:Nat}(gl:Gtz h)(hx:x<18446744073709551616)(hy:y<18446744073709551616)(hK:K (U (dD x y:Nat)) h):aY prog 193 #[U x,U y] h K:=by
 refine (fnk func193 [(5,[0,1],[],[U 0,U 0])]) ?_
 refine C8 (fun e=>?_) (fun e=>?_)
 ·obtain rfl:x=0:=o
  rw [A6v o o]
  grind
 refine C8 (fun F=>?_) (fun F=>?_)
 ·obtain rfl:y=0:=o
  rw [A6v o o]
  grind
 obtain ⟨a,k⟩:=TZ.ex (x:=x) o
 obtain ⟨b,A⟩:=TZ.ex (x:=y) o
 have T:=k.lt (n:=64) hx
 rw [A6v o o,aC,aC]
 have q:x ||| y<18446744073709551616:=Nat.or_lt_two_pow (n:=64) hx hy
 refine Jt gl (k.or A) q ⟨_,rfl,?_⟩
 refine Jt gl k hx ⟨_,rfl,?_⟩
 refine B4 (fun j=>o) (fun _=>?_)
 obtain ⟨m,s⟩:=k
 have E:=B8c s A
 have O:dN (x:Int) (2^(min ((a:Int)).toNat 64))=((2*m+1:Nat):Int):=by
  rw [aC,B1z o,show ((2:Int)^a)=((2^a:Nat):Int) by simp,<- Int.natCast_ediv,s,fQ _ (dO dc)]
 rw [O]
 have z:2*m+1<=x:=by
  rw [s];exact fW _ (dO dc)
 refine ⟨fun l L=>L=h/\∃ u v:Nat,l=[U u,U v]/\u%2=1/\u<18446744073709551616/\v<18446744073709551616/\dD u v=dD (2*m+1) y,fun l _=>(iAt l 0+iAt l 1).toNat,⟨rfl,2*m+1,y,rfl,o,o,hy,rfl⟩,?_⟩
 rintro V S H ⟨rfl,u,v,M,N,D,g,d⟩
 obtain ⟨rfl,rfl⟩:=M
 refine D6 (fun j=>?_) (fun j=>?_)
 ·obtain ⟨c,p⟩:=TZ.ex (x:=v) o
  have W:=p.lt (n:=64) g
  refine Jt gl p g ⟨_,rfl,?_⟩
  refine B4 (fun j=>o) (fun _=>?_)
  obtain ⟨n,r⟩:=p
  have G:dN (v:Int) (2^(min ((c:Int)).toNat 64))=((2*n+1:Nat):Int):=by
   rw [aC,B1z o,show ((2:Int)^c)=((2^c:Nat):Int) by simp,<- Int.natCast_ediv,r,fQ _ (dO dc)]
  have B:2*n+1<=v:=by
   rw [r];exact fW _ (dO dc)
  have i:dD u (2*n+1)=dD u v:=by
   rw [r,cP _ (Wu N)]
  rw [G]
  refine B4 (fun C=>?_) (fun C=>?_)
  ·have w:C6 ((u:Int)-((2*n+1:Nat):Int))=((u-(2*n+1):Nat):Int):=by rw [C3 o o];omega
   rw [w]
   refine ⟨⟨rfl,_,_,rfl,o,o,o,?_⟩,?_⟩
   ·rw [fX o,fY,i,d]
   ·simp only [iAt,aI,aP];omega
  ·have w:C6 (((2*n+1:Nat):Int)-(u:Int))=((2*n+1-u:Nat):Int):=by rw [C3 o o];omega
   rw [w]
   refine ⟨⟨rfl,_,_,rfl,o,o,o,?_⟩,?_⟩
   ·rw [fX o,i,d]
   ·simp only [iAt,aI,aP];omega
 ·refine B4 (fun j=>o) (fun _=>?_)
  obtain rfl:v=0:=o
  rw [aC,aJ (show min a b<=64 from o)]
  have Q:(u:Int)*2^(min a b)=((dD x y:Nat):Int):=by
   rw [E,<- d,cF,aV];simp
  have R:dD x y<=x:=Nat.le_of_dvd o (Nat.gcd_dvd_left x y)
  rw [Q,C3 o o]
  exact hK
end
def A7v{xs:List Int}(d:Dig b64 xs){k s:Nat}(hl:xs.length<=k+2)(hs:s<=64):val b64 xs/(b64^k*2^(64-s))=xs.getD (k+1) 0*2^s+xs.getD k 0/2^(64-s):=by
 have i:=C7 b64 xs (k+1)
 have l:=C7 b64 xs k
 rw [aN (show xs.length<=k+1+1 from o)] at i
 have c:=E9 (B:=b64) dc k
 have g:0<(2:Int)^(64-s):=bO dc
 have b:=Ak (s:=s) hs
 have j:=C5 dc (d.take k)
 have m:=R9 dc (d.take k)
 have n:=D5 (B:=b64) dc (show (xs.take k).length<=k from gz0)
 rw [<- dX (aQ c)]
 have e:val b64 xs/b64^k=xs.getD k 0+18446744073709551616*xs.getD (k+1) 0:=by
  refine (Yv (a:=val b64 (xs.take k)) ?_ j o).1
  grind
 rw [e,<- b,aV (2^s),dE,eM _ _ o,aV (2^s)]
 omega
section
variable {h g:bJ} {K:VP} {A B:Option bU} {ac bc:Nat}
def B93(a b u0 u1 v0 v1:Int)(odd:Bool):Prop:=(0<=u0/\u0<18446744073709551616)/\(0<=u1/\u1<18446744073709551616)/\(0<=v0/\v0<18446744073709551616)/\(0<=v1/\v1<18446744073709551616)/\(v0≠0->Leh a b u0 v0 u1 v1 (Ok a b u0 v0 odd) (Oj a b u1 v1 odd))
def B2t{a b F S W t20 t26 t33:Int}(hF:F=bor .u64 (C6 (t26*2^(min (C6 t20).toNat 64))) (dN t33 (2^(min (C6 ((64:Int)-(C6 t20))).toNat 64))))(hW:0<W)(hFa:F=a/W)(hSb:S=b/W)(hb0:0<=b)(hba:b<=a)(hF64:F<18446744073709551616)
 (hK:∀ u0 u1 v0 v1 odd,B93 a b u0 u1 v0 v1 odd->K (.agg #[U u0,U u1,U v0,U v1,.bool odd]) h):Ig prog K t20 t26 t33 S h:=by
 have da:=aO a W
 have db:=aO b W
 have u:=aT a (b:=W) o
 have x:=aL a hW
 have db1:=aT b (b:=W) o
 have db2:=aL b hW
 have w:0<=S:=by rw [hSb];exact bX hb0 o
 have s:S<=F:=by rw [hSb,hFa];exact Int.ediv_le_ediv hW hba
 unfold Ig
 rw [<- hF]
 refine ⟨fun l z=>z=h/\∃ (first c i d u0 u1 v0 v1:Int) (odd:Bool),l=[U first,U c,U i,U d,U u0,U u1,U v0,U v1,.bool odd]/\LS F S first c u0 v0 u1 v1 i d odd/\B93 a b u0 u1 v0 v1 odd/\i<=F/\d<=(if F=0 then 1 else F),fun l _=>(iAt l 1).toNat,⟨rfl,_,_,_,_,_,_,_,_,_,rfl,LS.init w s,⟨o,o,o,o,fun e=>absurd rfl e⟩,o,o⟩,?_⟩
 rintro first c i d u0 u1 v0 v1 odd z ⟨rfl,r,m,D,L,N,X,R,V,A,Q,j,st,G,H⟩
 obtain ⟨rfl,rfl,rfl,rfl,rfl,rfl,rfl,rfl,rfl⟩:=Q
 have y:=j.v2pos
 have p:=j.ord
 have O:=j.hF
 refine B4 (fun h1=>?_) (fun _=>hK _ _ _ _ _ st)
 have q:1<=c:=o
 have T:=j.bound2 q
 have E:first<=F:=by
  have t1:1*first<=d*first:=aE o o
  have t2:=aR (show 0<=v1 from o) p.1
  omega
 rw [C3 (n:=first-c) o o,C3 (n:=v1+d) o o]
 refine B4 (fun h2=>?_) (fun _=>hK _ _ _ _ _ st)
 refine B4 (fun e=>o) (fun _=>?_)
 refine B4 (fun e=>o) (fun _=>?_)
 rw [cO o,bC o]
 have g:=j.step o o
 have aa:=g.bound q
 have k:0<=first/c:=bX o o
 have C:first/c<=first:=dV _ o
 have B:=aR k (show 0<=i from o)
 have M:=aR k (show 0<=d from o)
 rw [C3 (n:=first/c) o o,C3 (n:=first/c*i) o o,C3 (n:=first/c*d) o o,C3 (n:=u1+first/c*i) o o,C3 (n:=v1+first/c*d) o o]
 refine ⟨⟨rfl,_,_,_,_,_,_,_,_,_,rfl,g,⟨⟨o,st.2.1.2⟩,⟨o,o⟩,⟨o,st.2.2.2.1.2⟩,⟨o,o⟩,fun e=>g.leh e hW (al:=a%W) (bl:=b%W) ?_ ?_ ⟨u,x⟩ ⟨db1,db2⟩⟩,o,o⟩,?_⟩
 ·grind
 ·grind
 ·have:=aL first (show 0<c from o)
  simp only [iAt,aP,aI];omega
set_option maxHeartbeats 1000000 in
def Xd{a b:Int}{an bn:Nat}(ma:Mw h A an a)(mb:Mw h B bn b)(hba:b<=a)(hb2:2<=bn)(hl:an<=100000000000000)
 (hK:∀ u0 u1 v0 v1 odd,B93 a b u0 u1 v0 v1 odd->K (.agg #[U u0,U u1,U v0,U v1,.bool odd]) h):aY prog 189 #[.slice A an ac,.slice B bn bc] h K:=by
 have S:=mb.nonneg dc
 have af:bn<=an:=mb.len_le dc (cL hba (ma.lt dc))
 obtain ⟨k,rfl⟩:∃ k,an=k+2:=⟨an-2,o⟩
 obtain ⟨xs,i,V,H,nx,rfl⟩:=ma
 obtain ⟨g,p,N,dy,ny,rfl⟩:=mb
 refine A23 _ _ _ _ _ _ ?_
 unfold A24
 have e1:B9 (((k+2:Nat):Int)-1)=((k+1:Nat):Int):=by rw [B5 o o];omega
 have e2:B9 (((k+2:Nat):Int)-2)=(k:Int):=by rw [B5 o o];omega
 simp only [e1,e2]
 have gt:=Q4 H (k+1)
 have R:=Q4 H k
 have X:=A7u (m:=k+1) i.symm nx
 obtain ⟨t,ht⟩:∃ t:Nat,xs.getD (k+1) 0=t:=⟨(xs.getD (k+1) 0).toNat,o⟩
 rw [i]
 refine V.load rfl o o ?_
 rw [aC,ht]
 rw [ht] at gt X
 refine T3 o ⟨_,rfl,?_⟩
 obtain ⟨s,hs⟩:∃ s,s=64-V6 t:=⟨_,rfl⟩
 rw [<- hs]
 obtain ⟨aa,w,ae⟩:=Vr H i.symm ht o hs
 refine V.load rfl o o ?_
 simp only [aC,ht]
 have j:C6 (s:Int)=s:=C3 o o
 have d:C6 (64-(s:Int))=((64-s:Nat):Int):=by rw [C3 o o];omega
 refine B4 (fun e=>by rw [j] at e;omega) (fun _=>?_)
 refine V.load rfl o o ?_
 simp only [aC]
 refine B4 (fun e=>by rw [j,d] at e;omega) (fun _=>?_)
 have W:0<(2:Int)^s:=bO dc
 have r:0<(2:Int)^(64-s):=bO dc
 have y:=Ak (s:=s) o
 have T:=E9 (B:=b64) dc k
 have Q:0<b64^k*2^(64-s):=Int.mul_pos T r
 have n:=A7v H (k:=k) (s:=s) o o
 have c:=A7v dy (k:=k) (s:=s) o o
 have C:val b64 xs/(b64^k*2^(64-s))<18446744073709551616:=by
  apply bG Q
  have G:18446744073709551616*(b64^k*2^(64-s))*2^s=18446744073709551616*b64^k*(2^s*2^(64-s)):=gz0
  rw [y] at G
  have L:b64^(k+1+1)=18446744073709551616*b64^k*18446744073709551616:=by
   rw [bF,bF]
   show b64^k*18446744073709551616*18446744073709551616=_
   grind
  rw [L,<- G] at w
  exact Int.lt_of_mul_lt_mul_right w o
 have ad:val b64 g/(b64^k*2^(64-s))<=val b64 xs/(b64^k*2^(64-s)):=Int.ediv_le_ediv Q hba
 have q1:∀ z:Int,0<=z/\z<18446744073709551616->0<=z/2^(64-s)/\z/2^(64-s)<2^s:=fun z E=>
  ⟨bX E.1 o,bG r (by rw [y];exact E.2)⟩
 have x:∀ u z:Int,0<=u->0<=z/\z<18446744073709551616->u*2^s+z/2^(64-s)<18446744073709551616->bor .u64 (C6 (u*2^(min (C6 (s:Int)).toNat 64))) (dN z (2^(min (C6 (64-C6 (s:Int))).toNat 64)))=u*2^s+z/2^(64-s):=by
  intro u z hu E M
  have:=q1 z E
  have:=aR hu (aQ W)
  rw [j,d,aC,aC,B1z o,aJ (show s<=64 from o),C3 o o,A1p hu o M]
 have gy:=Q4 dy (k+1)
 have O:=Q4 dy k
 rw [ht] at n
 refine ⟨fun l hp=>hp=h/\l=[U (val b64 g/(b64^k*2^(64-s)))],?_,?_⟩
 ·refine C8 (fun e=>?_) (fun e=>?_)
  ·rw [p]
   refine N.load rfl o o ?_
   simp only [aC]
   refine B4 (fun e=>by rw [j] at e;omega) (fun _=>?_)
   refine N.load rfl o o ?_
   simp only [aC]
   refine B4 (fun e=>by rw [j,d] at e;omega) (fun _=>?_)
   rw [x _ _ gy.1 O o,c]
   first|exact ⟨rfl,rfl⟩|exact ⟨trivial,rfl⟩
  ·refine C8 (fun e=>?_) (fun e=>?_)
   ·rw [p]
    refine N.load rfl o o ?_
    simp only [aC]
    refine B4 (fun e=>by rw [j,d] at e;omega) (fun _=>?_)
    have:g.getD (k+1) 0=0:=by simp [fD,eK (show g.length<=k+1 from o)]
    rw [this,dY,cQ] at c
    rw [j,d,aC,B1z o,c]
    first|exact ⟨rfl,rfl⟩|exact ⟨trivial,rfl⟩
   ·have G:g.getD (k+1) 0=0:=by simp [fD,eK (show g.length<=k+1 from o)]
    have L:g.getD k 0=0:=by simp [fD,eK (show g.length<=k from o)]
    rw [G,L,dY,cQ,Int.zero_ediv] at c
    rw [c]
    exact ⟨rfl,rfl⟩
 ·rintro D ab ⟨rfl,q⟩
  simp only [cN,fG,and_true,true_and] at q
  subst q
  exact B2t (F:=val b64 xs/(b64^k*2^(64-s))) (by rw [x _ _ o R o,n]) Q rfl rfl S hba C hK
end
def Win.swap{k k':cZ}{h g1 g:bJ}{ba bb:Nat}{e e':cK}{A B:Option bU}{pa qa pb qb:List eO}{us bs:List Int}(wa:Win k h g1 ba e A pa us qa)(wb:Win k' g1 g bb e' B pb bs qb):∃ g2,Win k' h g2 bb e' B pb bs qb/\Win k g2 g ba e A pa us qa:=by
 have a:ba≠bb:=by
  rintro rfl
  have:=wa.free
  rw [wb.eq,B8] at this
  cases this
 have b:g ba=none:=by
  have:=wa.free
  rwa [wb.eq,B6 _ _ a] at this
 refine ⟨g.put ba (.cells (pa++us.map (bM k)++qa).toArray e),⟨?_,?_,wb.at_⟩,⟨b,rfl,wa.at_⟩⟩
 ·rw [B6 _ _ a.symm];exact wb.free
 ·rw [wa.eq,wb.eq];exact Heap.put_comm _ _ _ a.symm
def Xa{z y c:Int}(hz:0<=z/\z<18446744073709551616)(hy:0<=y/\y<18446744073709551616)(hc:0<=c/\c<=1):(z-y-c)%18446744073709551616=z-y-c+18446744073709551616*(if z-y-c<0 then 1 else 0):=by
 omega
def A15(z:Int):z%18446744073709551616=z-18446744073709551616*(z/18446744073709551616):=o
def Mf{x y c:Int}(hx:0<=x/\x<18446744073709551616)(hy:0<=y/\y<18446744073709551616)(hc:0<=c/\c<18446744073709551616):0<=(x*y+c)/18446744073709551616/\(x*y+c)/18446744073709551616<18446744073709551616:=by
 have b:=aR hx.1 hy.1
 have a:x*y<=18446744073709551615*y:=aE o hy.1
 omega
def pin{v w B m:Int}(h:v=w+B*m)(hv:0<=v/\v<B)(hw:0<=w/\w<B):v=w:=by
 have a:0<B:=o
 by_cases c:m <= -1
 ·have:=aH c (aQ a);omega
 ·by_cases b:1<=m
  ·have:=aH b (aQ a);omega
  grind
section
variable {h g g1:bJ} {K:VP} {A B:Option bU} {ac bc an bn ba bb:Nat} {e:cK} {qa qb:List eO}
set_option maxHeartbeats 1000000 in
def A6z{us bs:List Int}{u0 u1 v0 v1:Int}{odd:Bool}(wa:Win .u64 h g1 ba e A [] us qa)(wb:Win .u64 g1 g bb e B [] bs qb)(ha:an=us.length)(hb:bn=bs.length)(hab:us.length=bs.length)(da:Dig b64 us)(db:Dig b64 bs)(hl:us.length<=100000000000000)(hu0:0<=u0/\u0<18446744073709551616)(hu1:0<=u1/\u1<18446744073709551616)(hv0:0<=v0/\v0<18446744073709551616)(hv1:0<=v1/\v1<18446744073709551616)
 (hX0:0<=Ok (val b64 us) (val b64 bs) u0 v0 odd/\Ok (val b64 us) (val b64 bs) u0 v0 odd<b64^us.length) (hX1:0<=Oj (val b64 us) (val b64 bs) u1 v1 odd/\Oj (val b64 us) (val b64 bs) u1 v1 odd<b64^us.length)
 (hK:∀ us' bs' h' g1',us'.length=us.length->bs'.length=us.length->Dig b64 us'->Dig b64 bs'->val b64 us'=Ok (val b64 us) (val b64 bs) u0 v0 odd->val b64 bs'=Oj (val b64 us) (val b64 bs) u1 v1 odd->Win .u64 h' g1' ba e A [] us' qa->Win .u64 g1' g bb e B [] bs' qb->K (.tuple #[]) h'):
 aY prog 191 #[.agg #[U u0,U u1,U v0,U v1,.bool odd],.slice A an ac,.slice B bn bc] h K:=by
 subst ha hb
 refine (fnk func191 [(4,[6,7,8,9,10,11,21],[],[U 0,U 0,U 0,U 0,U 0,U 0,I 0])] (own:=[3])) ?_
 refine ⟨fun l hp=>∃ (k:Nat) (b c d j T W:Int) (xs C:List Int) (g1:bJ),l=[U b,U c,U d,U j,U T,U W,I k]/\k<=us.length/\xs.length=us.length/\C.length=us.length/\Dig b64 xs/\Dig b64 C/\(0<=b/\b<18446744073709551616)/\(0<=c/\c<18446744073709551616)/\(0<=d/\d<18446744073709551616)/\(0<=j/\j<18446744073709551616)/\(0<=T/\T<=1)/\(0<=W/\W<=1)/\Win .u64 hp g1 ba e A [] xs qa/\Win .u64 g1 g bb e B [] C qb/\xs.drop k=us.drop k/\C.drop k=bs.drop k/\
  val b64 (xs.take k)=Ok (val b64 (us.take k)) (val b64 (bs.take k)) u0 v0 odd+b64^k*((if odd then c-b else b-c)+T)/\val b64 (C.take k)=Oj (val b64 (us.take k)) (val b64 (bs.take k)) u1 v1 odd+b64^k*((if odd then j-d else d-j)+W),fun l _=>us.length-(iAt l 6).toNat,⟨0,0,0,0,0,0,0,us,bs,g1,rfl,o,rfl,hab.symm,da,db,o,o,o,o,o,o,wa,wb,rfl,rfl,by simp [val,Ok],by simp [val,Oj]⟩,?_⟩
 rintro b c d j T W i hp ⟨k,ad,ah,ab,ae,af,ai,xs,C,g1,V,hk,a,n,Q,dy,hP,hQ,hR,hT,m,D,O,R,F,L,s,E⟩
 simp only [cN,fG,and_true,true_and] at V
 obtain ⟨rfl,rfl,rfl,rfl,rfl,rfl,rfl⟩:=V
 refine B4 (fun h1=>?_) (fun h1=>?_)
 ·have gx:=Q4 Q k
  have gy:=Q4 dy k
  have w:=J9 F
  have u:=J9 L
  have vx:=C7 b64 us k
  have vy:=C7 b64 bs k
  obtain ⟨g2,aa,ag⟩:=O.swap R
  refine O.sl.load a.symm o o ?_
  refine aa.sl.load o o o ?_
  simp only [aC]
  obtain ⟨aA,hA,_⟩:=SlV.at O.sl (i:=k) (by simp;omega)
  obtain ⟨aB,hB,_⟩:=SlV.at R.sl (i:=k) (by simp;omega)
  generalize hx0:xs.getD k 0=x at *
  generalize hy0:C.getD k 0=y at *
  refine U8 gx hu0 hP ⟨_,_,rfl,?_⟩
  refine U8 gy hv0 hQ ⟨_,_,rfl,?_⟩
  refine U8 gy hv1 hR ⟨_,_,rfl,?_⟩
  refine U8 gx hu1 hT ⟨_,_,rfl,?_⟩
  have bP:=Mf gx hu0 hP
  have bQ:=Mf gy hv0 hQ
  have bR:=Mf gy hv1 hR
  have bT:=Mf gx hu1 hT
  have mP:=Dx (x*u0+b)
  have mQ:=Dx (y*v0+c)
  have X:=Dx (y*v1+d)
  have mT:=Dx (x*u1+j)
  have kP:=A15 (x*u0+b)
  have kQ:=A15 (y*v0+c)
  have kR:=A15 (y*v1+d)
  have kT:=A15 (x*u1+j)
  have ek:B9 ((k:Int)+1)=((k+1:Nat):Int):=by rw [B5 o o];omega
  rw [ek]
  generalize (x*u0+b)/18446744073709551616=cP2 at *
  generalize (y*v0+c)/18446744073709551616=cQ2 at *
  generalize (y*v1+d)/18446744073709551616=cR2 at *
  generalize (x*u1+j)/18446744073709551616=cT2 at *
  generalize (x*u0+b)%18446744073709551616=p at *
  generalize (y*v0+c)%18446744073709551616=q at *
  generalize (y*v1+d)%18446744073709551616=r at *
  generalize (x*u1+j)%18446744073709551616=t at *
  have z:b64^(k+1)=b64^k*18446744073709551616:=bF _ _
  cases odd with
  | true=>
   refine Br.of (fun _=>?_) (fun e=>by cases e)
   refine Es mP mQ m ⟨_,_,rfl,aA,hA,o,o,O.storeN (i:=k) F8 hA o ?_⟩
   intro h2 w2
   refine Es X mT D ⟨_,_,rfl,aB,hB,o,o,?_⟩
   obtain ⟨g3,G,N⟩:=w2.swap R
   refine G.storeN (i:=k) F8 hB o ?_
   intro h4 w4
   obtain ⟨g5,H,M⟩:=w4.swap N
   refine ⟨⟨k+1,_,_,_,_,_,_,_,_,g5,rfl,o,by simpa using a,by simpa using n,Q.set (Dx _),dy.set (Dx _),bP,bQ,bR,bT,by split<;>omega,by split<;>omega,H,M,?_,?_,?_,?_⟩,by simp only [iAt,aI,aP];omega⟩
   ·rw [G7 o];exact H9 F
   ·rw [G7 o];exact H9 L
   ·rw [E6 o,J4,aK,aJ o,z,vx,vy,<- w,<- u,s,Xa mP mQ m]
    simp only [Ok,if_true]
    grind
   ·rw [E6 o,J4,aK,aJ o,z,vx,vy,<- w,<- u,E,Xa X mT D]
    simp only [Oj,if_true]
    grind
  | false=>
   refine Br.of (fun e=>by cases e) (fun _=>?_)
   refine Es mQ mP m ⟨_,_,rfl,aA,hA,o,o,O.storeN (i:=k) F8 hA o ?_⟩
   intro h2 w2
   refine Es mT X D ⟨_,_,rfl,aB,hB,o,o,?_⟩
   obtain ⟨g3,G,N⟩:=w2.swap R
   refine G.storeN (i:=k) F8 hB o ?_
   intro h4 w4
   obtain ⟨g5,H,M⟩:=w4.swap N
   refine ⟨⟨k+1,_,_,_,_,_,_,_,_,g5,rfl,o,by simpa using a,by simpa using n,Q.set (Dx _),dy.set (Dx _),bP,bQ,bR,bT,by split<;>omega,by split<;>omega,H,M,?_,?_,?_,?_⟩,by simp only [iAt,aI,aP];omega⟩
   ·rw [G7 o];exact H9 F
   ·rw [G7 o];exact H9 L
   ·rw [E6 o,J4,aK,aJ o,z,vx,vy,<- w,<- u,s,Xa mQ mP m]
    simp only [Ok,Bool.false_eq_true,if_false]
    grind
   ·rw [E6 o,J4,aK,aJ o,z,vx,vy,<- w,<- u,E,Xa mT X D]
    simp only [Oj,Bool.false_eq_true,if_false]
    grind
 ·obtain rfl:k=us.length:=o
  rw [aN (show xs.length<=us.length from o),bZ,aN (show bs.length<=us.length from o)] at s
  rw [aN (show C.length<=us.length from o),bZ,aN (show bs.length<=us.length from o)] at E
  have bx:=R9 dc Q
  have S:=R9 dc dy
  rw [a] at bx
  rw [n] at S
  exact hK xs C hp g1 a n Q dy (pin s ⟨C5 dc Q,bx⟩ hX0) (pin E ⟨C5 dc dy,S⟩ hX1) O R
end
def Win.priv{k:cZ}{h g:bJ}{b m c:Nat}{e:cK}{A:Option bU}{xs:List Int}{post:List eO}(w:Win k h g b e A [] xs post)(hx:xs≠[])(hc:c=xs.length+post.length)(hm:m<=xs.length):Priv h g e 1 A m c ((xs.take m).map (bM k)):=by
 refine ⟨gz0,o,.inr ⟨b,xs.map (bM k)++post,?_,w.free,?_,gz0,?_⟩⟩
 ·rcases w.at_ with a|a
  ·grind
  omega
 ·have:=w.eq
  assumption
 ·rw [fF,List.take_append_of_le_length gz0,List.map_take]
def El{k:cZ}{h g:bJ}{n c:Nat}{e:cK}{A:Option bU}{xs:List Int}(p:Priv h g e 1 A n c (xs.map (bM k)))(hx:xs≠[]):∃ b post,Win k h g b e A [] xs post/\c=xs.length+post.length:=by
 obtain ⟨r,m,i⟩:=p
 rcases i with ⟨s,rfl⟩|⟨b,a,l,j,rfl,q,d⟩
 ·simp_all
 ·refine ⟨b,a.drop (n*1),⟨j,?_,.inr l⟩,?_⟩
  ·rw [cM,<- d,dB]
  grind
def Priv.swap{h g1 g:bJ}{e e':cK}{s s' n c m d:Nat}{A B:Option bU}{xs ys:List eO}(pa:Priv h g1 e s A n c xs)(pb:Priv g1 g e' s' B m d ys):∃ g2,Priv h g2 e' s' B m d ys/\Priv g2 g e s A n c xs:=by
 obtain ⟨r,u,D⟩:=pa
 obtain ⟨k,q,x⟩:=pb
 rcases D with ⟨G,rfl⟩|⟨j,i,y,a,rfl,z⟩
 ·exact ⟨g,⟨k,q,x⟩,⟨r,u,.inl ⟨G,rfl⟩⟩⟩
 ·rcases x with ⟨C,rfl⟩|⟨w,p,F,l,rfl,E⟩
  ·exact ⟨_,⟨k,q,.inl ⟨C,rfl⟩⟩,⟨r,u,.inr ⟨j,i,y,a,rfl,z⟩⟩⟩
  ·have b:j≠w:=by
    rintro rfl
    rw [B8] at a;cases a
   rw [B6 _ _ b] at a
   refine ⟨g.put j (.cells i.toArray e),⟨k,q,.inr ⟨w,p,F,?_,Heap.put_comm _ _ _ b.symm,E⟩⟩,⟨r,u,.inr ⟨j,i,y,a,rfl,z⟩⟩⟩
   rw [B6 _ _ b.symm];exact l
abbrev Pw(h g:bJ)(A:Option bU)(n c:Nat)(us:List Int):Prop:=Priv h g 194 1 A n c (us.map (bM .u64))
def GI(h:bJ)(G:Nat)(hp:bJ)(A:Option bU)(n c:Nat)(B:Option bU)(m d:Nat):Prop:=∃ (us vs:List Int) (g1 g:bJ),h.le g/\Pw hp g1 A n c us/\Pw g1 g B m d vs/\Dig b64 us/\Dig b64 vs/\fB us/\fB vs/\n=us.length/\m=vs.length/\val b64 vs<=val b64 us/\eX (val b64 us) (val b64 vs)=G/\us.length<=9000000000000
def B03{a b:Int}(ha:0<=a)(hb:0<=b):eX b (a%b)=eX a b:=by
 obtain ⟨x,rfl⟩:=cV ha
 obtain ⟨y,rfl⟩:=cV hb
 rw [<- Int.natCast_emod,cU,cU,fY x,fY y,<- Nat.gcd_rec]
section
variable {h g:bJ} {K:VP} {A B:Option bU} {ac bc:Nat}
set_option maxHeartbeats 1000000 in
def B3x{G an bn:Nat}{hp:bJ}(gl:Gtz h)(gi:GI h G hp A an ac B bn bc)(hK:∀ A' m c' h',h.le h'->m<=c'->Mw h' A' m (G:Int)->K (.slice A' m c') h'):Kk prog K A an ac B bn bc hp:=by
 unfold Kk
 refine ⟨fun l hp=>∃ (A B:Option bU) (n c m d:Nat),l=[.slice A n c,.slice B m d]/\GI h G hp A n c B m d,fun l hp=>match l with|[_,.slice B n _]=>B80 b64 hp B n|_=>0,⟨_,_,_,_,_,_,rfl,gi⟩,?_⟩
 rintro A1 X c1 B1 m1 d1 hp ⟨A,B,n,c,m,d,hl,s,k,g1,g,lg,R,pb,du,dv,nu,nv,hn,W,V,a,bt⟩
 simp only [cN,cW,and_true] at hl
 obtain ⟨⟨rfl,rfl,rfl⟩,rfl,rfl,rfl⟩:=hl
 have Ma:Mw hp A1 X (val b64 s):=⟨s,hn,R.slV,du,nu,rfl⟩
 have Mb:Mw hp B1 m1 (val b64 k):=⟨k,W,SlV.mono R.le pb.slV,dv,nv,rfl⟩
 have aa:=R.2.1
 have a8:=pb.2.1
 have M:=C5 dc du
 have bg:=C5 dc dv
 have a2:m1<=X:=Mb.len_le dc (cL V (Ma.lt dc))
 have T:h.le hp:=A0 lg (A0 pb.le R.le)
 have av:=Mb.len_zero dc
 refine B4 (fun h1=>?_) (fun h1=>?_)
 ·refine Xd Ma Mb V o o ?_
  intro u0 u1 v0 v1 bp st
  refine ⟨_,_,_,_,_,rfl,C8 (fun e=>?_) (fun e=>?_)⟩
  ·refine V4 Ma Mb aa a8 o o o ?_
   intro A2 m2 c2 A3 m3 c3 h6 l6 q k3 M2 M3
   refine ⟨_,_,_,_,_,_,rfl,?_⟩
   have bu:m3<=m1:=M3.len_le dc (by have:=aL (val b64 s) (show 0<val b64 k from o);have:=Mb.lt dc;omega)
   obtain ⟨ws,bd,a3,N,aq,a6⟩:=M3
   refine Eb a3 bd o ?_
   intro A4 c4 h7 g7 l7 p7
   obtain ⟨g2,Q,F⟩:=R.swap pb
   obtain ⟨g8,l8,a1⟩:=Q.after (A0 l6 l7)
   obtain ⟨g9,au,a7⟩:=Priv.swap p7 a1
   have bm:=aL (val b64 s) (show 0<val b64 k from o)
   have Mn:Mw h7 A4 ws.length (val b64 ws):=⟨ws,rfl,p7.slV,N,aq,rfl⟩
   refine ⟨_,_,_,rfl,⟨_,_,_,_,_,_,rfl,k,ws,g9,g8,A0 lg (A0 F.le l8),au,a7,dv,N,nv,aq,W,rfl,o,?_,o⟩,?_⟩
   ·rw [a6,B03 M bg];exact a
   ·simp only [Hj Mn,Hj Mb]
    have:=C5 dc N
    omega
  ·obtain ⟨af,ao,ak,al,lh⟩:=st
   have lh:=lh e
   unfold Qf
   obtain ⟨g2,Q,F⟩:=R.swap pb
   refine ⟨fun l hp=>∃ (B:Option bU) (m d j:Nat) (g1 g:bJ),l=[.slice B m d]/\h.le g/\Pw hp g1 B m d (k++aF j 0)/\Pw g1 g A1 X c1 s/\m=k.length+j/\m<=X,fun l _=>match l with|[.slice _ m _]=>X-m|_=>0,⟨B1,m1,d1,0,g2,g,rfl,lg,by simpa using Q,F,o,a2⟩,?_⟩
   rintro B2 m2 d2 br ⟨B',m',d',j,g3,g4,aj,ab,ah,ar,bo,bh⟩
   simp only [cN,cW,and_true] at aj
   obtain ⟨rfl,rfl,rfl⟩:=aj
   refine B4 (fun h2=>?_) (fun h2=>?_)
   ·refine Gy Q6 ah rfl rfl o o ?_
    intro A5 c5 h5 g5 l5 p5
    obtain ⟨g6,l6,be⟩:=ar.after l5
    refine ⟨⟨A5,m2+1,c5,j+1,g5,g6,rfl,A0 ab l6,?_,be,o,o⟩,by simp only;omega⟩
    have p6:=p5
    rw [<- List.map_singleton (f:=bM .u64),<- eG,cJ,<- List.replicate_succ'] at p6
    exact p6
   ·obtain ⟨g5,az,a5⟩:=ah.swap ar
    have y:(k++aF j (0:Int)).length=s.length:=by simp;omega
    have i:s≠[]:=by rintro rfl;simp at hn;omega
    have ai:k++aF j (0:Int)≠[]:=by intro h0;rw [h0] at y;simp at y;exact i (bH y.symm)
    obtain ⟨ba,qa,wa,bl⟩:=El az i
    obtain ⟨bb,qb,wb,bq⟩:=El a5 ai
    have ay:=lh.gcd
    have bi:=lh.ord
    have a4:=lh.le
    have bj:val b64 k<b64^s.length:=by rw [<- hn];exact cL V (Ma.lt dc)
    refine A6z wa wb hn o y.symm du (dv.append (P4 dc _)) o af ao ak al (by rw [Cm];omega) (by rw [Cm];omega) ?_
    intro x p h6 g6 z C ax ad S u H ag
    rw [Cm] at S u
    have D:x≠[]:=by rintro rfl;simp at z;exact i (bH z.symm)
    have E:p≠[]:=by rintro rfl;simp at C;exact i (bH C.symm)
    refine ⟨rfl,?_⟩
    rw [show X=x.length from o]
    refine Dk H.sl o o ?_
    intro k1 a9 bf ae
    refine ⟨_,_,_,rfl,?_⟩
    rw [show m2=p.length from o]
    refine Dk (SlV.mono H.le ag.sl) o o ?_
    intro q a0 ap L
    have pA:=H.priv (m:=k1) (c:=c1) D o a9
    have pB:=ag.priv (m:=q) (c:=d2) E o a0
    have e1:(x.take k1).length=k1:=by rw [aK];omega
    have e2:(p.take q).length=q:=by rw [aK];omega
    have Mn:Mw h6 B2 q (val b64 (p.take q)):=⟨p.take q,e2.symm,SlV.mono pA.le pB.slV,ad.take _,ap,rfl⟩
    refine ⟨_,_,_,rfl,⟨_,_,_,_,_,_,rfl,x.take k1,p.take q,_,_,ab,pA,pB,ax.take _,ad.take _,bf,ap,e1.symm,e2.symm,?_,?_,o⟩,?_⟩
    ·rw [ae,L,S,u];omega
    ·rw [ae,L,S,u,ay];exact a
    ·simp only [Hj Mn,Hj Mb]
     rw [L,u];omega
 ·refine C8 (fun h2=>?_) (fun h2=>?_)
  ·have h0:val b64 k=0:=av.2 o
   rw [h0,Int.gcd_zero_right] at a
   refine hK _ _ _ _ T aa ?_
   rw [<- a,Int.natAbs_of_nonneg M];exact Ma
  ·have bv:m1=1:=o
   obtain ⟨w,rfl⟩:∃ w,k=[w]:=by
    rcases k with _|⟨w,_|⟨w',r⟩⟩
    ·simp at W;omega
    ·exact ⟨w,rfl⟩
    ·simp at W;omega
   have hw:=dv w (by simp)
   rw [Er] at *
   obtain ⟨t,rfl⟩:∃ t:Nat,w=(t:Int):=cV hw.1
   have bk:(t:Int)<18446744073709551616:=hw.2
   have am:0<t:=o
   have sb:SlI .u64 hp B1 [(t:Int)]:=SlV.mono R.le pb.slV
   refine sb.load W o o ?_
   refine sb.load W o o ?_
   show aY _ _ #[_,U ((t:Nat):Int)] _ _
   refine Lr Ma ⟨am,o⟩ o ⟨_,rfl,B0 _,?_⟩
   have r0:=aT (val b64 s) (b:=(t:Int)) o
   have r1:=aL (val b64 s) (show (0:Int)<(t:Int) from o)
   have O:=B03 M (show (0:Int)<=(t:Int) from o)
   obtain ⟨r,hr⟩:=cV r0
   rw [hr] at r1 O ⊢
   show aY _ _ #[U ((t:Nat):Int),_] _ _
   refine A1f (gl.mono T) o o ⟨_,rfl,B0 _,?_⟩
   rw [cU] at O
   have a4:dD t r<=t:=Nat.le_of_dvd am (Nat.gcd_dvd_left t r)
   refine Bl o ?_
   intro A2 m2 c2 h2 l2 q M2
   rw [O,a] at M2
   exact ⟨_,_,_,rfl,l2,hK _ _ _ _ (A0 T l2) q M2⟩
def Ml{x y:Int}{an bn:Nat}(gl:Gtz h)(ma:Mw h A an x)(mb:Mw h B bn y)(ha:an<=ac)(hb:bn<=bc)(hl:an<=9000000000000)(hl2:bn<=9000000000000)(hK:∀ A' m c' h',h.le h'->m<=c'->Mw h' A' m (eX x y:Int)->K (.slice A' m c') h'):aY prog 120 #[.slice A an ac,.slice B bn bc] h K:=by
 refine A26 _ _ _ _ _ _ ?_
 refine ⟨fun l s=>s=h/\∃ (A B:Option bU) (n c m d:Nat) (e a:Int),l=[.slice A n c,.slice B m d]/\Mw h A n e/\Mw h B m a/\a<=e/\n<=c/\m<=d/\n<=9000000000000/\m<=9000000000000/\eX e a=eX x y,?_,?_⟩
 ·refine G8 ma mb o ⟨_,rfl,B4 (fun b=>?_) (fun b=>?_)⟩
  ·rw [Cu] at b
   exact ⟨rfl,_,_,_,_,_,_,_,_,rfl,mb,ma,o,hb,ha,hl2,hl,Int.gcd_comm _ _⟩
  ·rw [Cu] at b
   grind
 ·rintro A1 n1 c1 B1 m1 V s ⟨rfl,A2,B2,n,c,m,d,e,a,k,M1,M2,j,u,k2,l1,l2,q⟩
  obtain ⟨⟨rfl,rfl,rfl⟩,rfl,rfl,rfl⟩:=k
  refine C8 (fun b=>?_) (fun b=>?_)
  ·have:a=0:=(M2.len_zero dc).2 o
   subst this
   rw [Int.gcd_zero_right] at q
   refine hK _ _ _ _ (B0 _) u ?_
   grind
  ·obtain ⟨R,i,E,w,N,rfl⟩:=M1
   obtain ⟨H,g,O,F,nv,rfl⟩:=M2
   refine Eb E i o ?_
   intro A3 c3 X g3 r p
   refine ⟨_,_,_,rfl,?_⟩
   refine Eb (SlV.mono (A0 r p.le) O) g o ?_
   intro A4 c4 T W M z
   refine ⟨_,_,_,rfl,?_⟩
   obtain ⟨Q,G,C⟩:=p.after M
   obtain ⟨D,S,L⟩:=Priv.swap z C
   exact B3x gl ⟨R,H,D,Q,A0 r G,S,L,w,F,N,nv,rfl,rfl,j,q,o⟩ hK
end
structure ZI (h:bJ) (s:Bool) (A:Option bU) (n c:Nat) (z:Int):Prop where
 cap:n<=c
 mag:Mw h A n (z.natAbs:Int)
 sgn:s=decide (z<0)
def ZI.mono{h h':bJ}{s:Bool}{A:Option bU}{n c:Nat}{z:Int}(i:ZI h s A n c z)(l:h.le h'):ZI h' s A n c z:=⟨i.cap,i.mag.mono l,i.sgn⟩
def ZI.zero{h:bJ}{A:Option bU}:ZI h false A 0 0 0:=⟨bI _,Mag.zero,rfl⟩
def ZI.lenG{h:bJ}{s:Bool}{A:Option bU}{n c m k:Nat}{z:Int}(i:ZI h s A n c z)(hz:ZB m z)(hm:m<=64*k):n<=k:=by
 refine i.mag.len_le dc ?_
 rw [Ha]
 have a:(z.natAbs:Int)<2^m:=by
  have:((z.natAbs:Nat):Int)<((2^m:Nat):Int):=Int.ofNat_lt.2 hz
  simpa using this
 have b:=D5 (B:=2) dc hm
 exact Int.lt_of_lt_of_le a b
def ZI.len{h:bJ}{s:Bool}{A:Option bU}{n c m:Nat}{z:Int}(i:ZI h s A n c z)(hz:ZB m z)(hm:m<=6400000000):n<=100000000:=i.lenG hz o
def ZI.zeroIff{h:bJ}{s:Bool}{A:Option bU}{n c:Nat}{z:Int}(i:ZI h s A n c z):z=0↔n=0:=by
 have:=i.mag.len_zero dc
 omega
section
variable {h g:bJ} {K:VP} {A B:Option bU} {s s':Bool} {an ac bn bc m:Nat} {x y:Int}
def K6{v:Nat}{n c:Nat}{neg:Bool}(M:Mw h A n (v:Int))(hc:n<=c)(hK:∀ s,ZI h s A n c (if neg then -(v:Int) else v)->K (.agg #[.bool s,.slice A n c]) h):aY prog 165 #[.bool neg,.slice A n c] h K:=by
 have a:=M.len_zero dc
 refine (fnk func165 (own:=[4])) ?_
 cases neg with
 | true=>
  refine Br.of (fun _=>hK _ ⟨hc,?_,?_⟩) (fun e=>by cases e)
  ·simpa using M
  ·simp only [if_true,decide_eq_decide];omega
 | false=>
  refine Br.of (fun e=>by cases e) (fun _=>hK _ ⟨hc,?_,?_⟩)
  ·simpa using M
  ·simp
def U5(i:ZI h s A an ac x)(hK:∀ s',ZI h s' A an ac (-x)->K (.agg #[.bool s',.slice A an ac]) h):aY prog 93 #[.agg #[.bool s,.slice A an ac]] h K:=by
 refine (fnk func93 (own:=[1,2])) ?_
 refine K6 (neg:= !s) i.mag i.cap ?_
 intro b i1
 have e:(if (!s)=true then -(x.natAbs:Int) else x.natAbs)= -x:=by
  have:=i.sgn
  by_cases a:x<0
  ·simp only [a,decide_true] at this;subst this;simp;omega
  ·simp only [a,decide_false] at this;subst this;simp;omega
 rw [e] at i1
 exact ⟨_,_,_,_,rfl,hK _ i1⟩
def Dj(i:ZI h s A an ac x)(j:ZI h s' B bn bc y)(hx:ZB m x)(hy:ZB m y)(hm:m<=576000000000000)(hK:∀ s1 A' n' c' h',h.le h'->ZI h' s1 A' n' c' (x+y)->K (.agg #[.bool s1,.slice A' n' c']) h'):aY prog 181 #[.agg #[.bool s,.slice A an ac],.agg #[.bool s',.slice B bn bc]] h K:=by
 have r:=i.lenG (k:=9000000000000) hx o
 have u:=j.lenG (k:=9000000000000) hy o
 have d:=i.sgn
 have a:=j.sgn
 refine (fnk func181 (own:=[2,3,4])) ?_
 refine Br.of (fun e=>?_) (fun e=>?_)
 ·have e:s=s':=by simpa using e
  subst e
  refine T9 i.mag j.mag i.cap j.cap o o ?_
  intro A1 q c1 b c g M1
  refine ⟨_,_,_,rfl,c,?_⟩
  rw [<- eJ] at M1
  refine K6 (neg:=s) M1 g ?_
  intro s1 i1
  refine ⟨_,_,_,_,rfl,B0 _,hK _ _ _ _ _ c ?_⟩
  have n:(if s=true then -((x.natAbs+y.natAbs:Nat):Int) else ((x.natAbs+y.natAbs:Nat):Int))=x+y:=by
   cases s with
   | true=>have b:=of_decide_eq_true d.symm;have l:=of_decide_eq_true a.symm;simp;omega
   | false=>have b:=of_decide_eq_false d.symm;have l:=of_decide_eq_false a.symm;simp;omega
  rw [n] at i1
  exact i1
 ·have e:s≠s':=by simpa using e
  refine G8 i.mag j.mag o ⟨_,rfl,B4 (fun b=>?_) (fun b=>?_)⟩
  ·have p:¬ (x.natAbs:Int)<y.natAbs:=by rw [<- Cu];omega
   refine I5 i.mag j.mag i.cap o o ?_
   intro A1 q c1 b c g M1
   refine ⟨_,_,_,rfl,c,?_⟩
   rw [show (x.natAbs:Int)-y.natAbs=((x.natAbs-y.natAbs:Nat):Int) from o] at M1
   refine K6 (neg:=s) M1 g ?_
   intro s1 i1
   refine ⟨_,_,_,_,rfl,B0 _,hK _ _ _ _ _ c ?_⟩
   have n:(if s=true then -((x.natAbs-y.natAbs:Nat):Int) else ((x.natAbs-y.natAbs:Nat):Int))=x+y:=by
    cases s with
    | true=>cases s' with
     | true=>exact absurd rfl e
     | false=>have b:=of_decide_eq_true d.symm;have l:=of_decide_eq_false a.symm;rw [iP rfl];omega
    | false=>cases s' with
     | true=>have b:=of_decide_eq_false d.symm;have l:=of_decide_eq_true a.symm;rw [iN (by simp)];omega
     | false=>exact absurd rfl e
   rw [n] at i1
   exact i1
  ·have p:(x.natAbs:Int)<y.natAbs:=by rw [<- Cu];omega
   refine I5 j.mag i.mag j.cap o o ?_
   intro A1 q c1 b c g M1
   refine ⟨_,_,_,rfl,c,?_⟩
   rw [show (y.natAbs:Int)-x.natAbs=((y.natAbs-x.natAbs:Nat):Int) from o] at M1
   refine K6 (neg:=s') M1 g ?_
   intro s1 i1
   refine ⟨_,_,_,_,rfl,B0 _,hK _ _ _ _ _ c ?_⟩
   have n:(if s'=true then -((y.natAbs-x.natAbs:Nat):Int) else ((y.natAbs-x.natAbs:Nat):Int))=x+y:=by
    cases s with
    | true=>cases s' with
     | true=>exact absurd rfl e
     | false=>have b:=of_decide_eq_true d.symm;have l:=of_decide_eq_false a.symm;rw [iN (by simp)];omega
    | false=>cases s' with
     | true=>have b:=of_decide_eq_false d.symm;have l:=of_decide_eq_true a.symm;rw [iP rfl];omega
     | false=>exact absurd rfl e
   rw [n] at i1
   exact i1
def Zj(i:ZI h s A an ac x)(j:ZI h s' B bn bc y)(hx:ZB m x)(hy:ZB m y)(hm:m<=576000000000000)(hK:∀ s1 A' n' c' h',h.le h'->ZI h' s1 A' n' c' (x-y)->K (.agg #[.bool s1,.slice A' n' c']) h'):aY prog 178 #[.agg #[.bool s,.slice A an ac],.agg #[.bool s',.slice B bn bc]] h K:=by
 refine (fnk func178 (own:=[2,3,4])) ?_
 refine U5 j ?_
 intro s1 b
 refine ⟨_,_,_,_,rfl,B0 _,Dj i b hx hy.neg o ?_⟩
 intro d A2 g c2 e a c
 exact ⟨_,_,_,_,rfl,a,hK _ _ _ _ _ a (by rw [Int.sub_eq_add_neg];exact c)⟩
def F7(i:ZI h s A an ac x)(j:ZI h s' B bn bc y)(hx:ZB m x)(hy:ZB m y)(hm:m<=576000000000000)(hK:∀ s1 A' n' c' h',h.le h'->ZI h' s1 A' n' c' (x*y)->K (.agg #[.bool s1,.slice A' n' c']) h'):aY prog 81 #[.agg #[.bool s,.slice A an ac],.agg #[.bool s',.slice B bn bc]] h K:=by
 have l:=i.lenG (k:=9000000000000) hx o
 have p:=j.lenG (k:=9000000000000) hy o
 have b:=i.sgn
 have a:=j.sgn
 refine (fnk func81 (own:=[2,3,4])) ?_
 refine F4 i.mag j.mag i.cap j.cap o o ?_
 intro A1 n c1 g c d M1
 refine ⟨_,_,_,rfl,c,?_⟩
 rw [<- cF] at M1
 refine K6 (neg:= !(s==s')) M1 d ?_
 intro s1 i1
 refine ⟨_,_,_,_,rfl,B0 _,hK _ _ _ _ _ c ?_⟩
 have e:(if (!(s==s'))=true then -((x.natAbs*y.natAbs:Nat):Int) else ((x.natAbs*y.natAbs:Nat):Int))=x*y:=by
  rw [cF]
  cases s with
  | true=>cases s' with
   | true=>rw [show (x.natAbs:Int)= -x by have:=of_decide_eq_true b.symm;omega,show (y.natAbs:Int)= -y by have:=of_decide_eq_true a.symm;omega];show -x * -y=x*y;exact Int.neg_mul_neg x y
   | false=>rw [show (x.natAbs:Int)= -x by have:=of_decide_eq_true b.symm;omega,show (y.natAbs:Int)=y by have:=of_decide_eq_false a.symm;omega];show -(-x*y)=x*y;rw [Int.neg_mul,Int.neg_neg]
  | false=>cases s' with
   | true=>rw [show (x.natAbs:Int)=x by have:=of_decide_eq_false b.symm;omega,show (y.natAbs:Int)= -y by have:=of_decide_eq_true a.symm;omega];show -(x * -y)=x*y;rw [Int.mul_neg,Int.neg_neg]
   | false=>rw [show (x.natAbs:Int)=x by have:=of_decide_eq_false b.symm;omega,show (y.natAbs:Int)=y by have:=of_decide_eq_false a.symm;omega];rfl
 rw [e] at i1
 exact i1
def Ai(gl:Gtz h)(i:ZI h s A an ac x)(j:ZI h s' B bn bc y)(hx:ZB m x)(hy:ZB m y)(hm:m<=576000000000000)(hK:∀ A' n' c' h',h.le h'->ZI h' false A' n' c' (eX x y:Int)->K (.agg #[.bool false,.slice A' n' c']) h'):aY prog 55 #[.agg #[.bool s,.slice A an ac],.agg #[.bool s',.slice B bn bc]] h K:=by
 have c:=i.lenG (k:=9000000000000) hx o
 have d:=j.lenG (k:=9000000000000) hy o
 refine (fnk func55 (own:=[2,3,4])) ?_
 refine Ml gl i.mag j.mag i.cap j.cap c d ?_
 intro A1 g c1 e b a M1
 refine ⟨_,_,_,rfl,hK _ _ _ _ b ⟨a,?_,?_⟩⟩
 ·rw [cU] at M1
  rw [Int.natAbs_natCast]
  exact M1
 ·simp
def O9(i:ZI h s A an ac x)(hK:K (I (Int.sign x)) h):aY prog 103 #[.agg #[.bool s,.slice A an ac]] h K:=by
 have c:=i.zeroIff
 have b:=i.sgn
 refine (fnk func103 (own:=[1])) ?_
 refine C8 (fun e=>?_) (fun e=>?_)
 ·obtain rfl:x=0:=o
  simpa using hK
 ·refine Br.of (fun a=>?_) (fun a=>?_)
  ·subst a
   have:=of_decide_eq_true b.symm
   rw [dK this] at hK;exact hK
  ·subst a
   have:=of_decide_eq_false b.symm
   rw [dZ o] at hK;exact hK
def Em(i:ZI h s A an ac x)(j:ZI h s' B bn bc y)(hx:ZB m x)(hy:ZB m y)(hm:m<=1152000000000000)(hK:K (I (Bb x y)) h):aY prog 99 #[.agg #[.bool s,.slice A an ac],.agg #[.bool s',.slice B bn bc]] h K:=by
 have g:=i.lenG (k:=18000000000000) hx o
 have l:=j.lenG (k:=18000000000000) hy o
 have d:=i.sgn
 have a:=j.sgn
 refine (fnk func99 (own:=[2,3])) ?_
 have c1:x<0->y<0->Bb (y.natAbs:Int) x.natAbs=Bb x y:=fun c b=>by unfold Bb;split<;>split<;>first|rfl|omega|(split<;>split<;>first|rfl|omega)|(split<;>first|rfl|omega)
 have c2:¬ x<0->¬ y<0->Bb (x.natAbs:Int) y.natAbs=Bb x y:=fun c b=>by rw [show (x.natAbs:Int)=x from o,show (y.natAbs:Int)=y from o]
 cases s with
 | true=>
  have c:=of_decide_eq_true d.symm
  refine Br.of (fun _=>?_) (fun e=>by cases e)
  cases s' with
  | true=>
   have b:=of_decide_eq_true a.symm
   refine Br.of (fun _=>?_) (fun e=>by cases e)
   exact G8 j.mag i.mag o ⟨_,rfl,by rw [c1 c b];exact hK⟩
  | false=>
   have b:=of_decide_eq_false a.symm
   refine Br.of (fun e=>by cases e) (fun _=>Br.of (fun _=>?_) (fun e=>by cases e))
   have:Bb x y= -1:=by unfold Bb;rw [iP o]
   rw [this] at hK;exact hK
 | false=>
  have c:=of_decide_eq_false d.symm
  refine Br.of (fun e=>by cases e) (fun _=>Br.of (fun e=>by cases e) (fun _=>?_))
  cases s' with
  | true=>
   have b:=of_decide_eq_true a.symm
   refine Br.of (fun _=>?_) (fun e=>by cases e)
   have:Bb x y=1:=by unfold Bb;rw [iN o,iP o]
   rw [this] at hK;exact hK
  | false=>
   have b:=of_decide_eq_false a.symm
   refine Br.of (fun e=>by cases e) (fun _=>?_)
   exact G8 i.mag j.mag o ⟨_,rfl,by rw [c2 c b];exact hK⟩
end
section
variable {h g:bJ} {K:VP} {A B:Option bU} {s s':Bool} {an ac bn bc m:Nat} {x y:Int}
def Bw(hs:s=decide (x<0)):(s=true/\x= -(x.natAbs:Int))\/(s=false/\x=(x.natAbs:Int)):=by
 grind
def B2h(a b:Nat):(a:Int).tdiv b=((a/b:Nat):Int)/\(-(a:Int)).tdiv (-(b:Int))=((a/b:Nat):Int)/\(-(a:Int)).tdiv b= -((a/b:Nat):Int)/\(a:Int).tdiv (-(b:Int))= -((a/b:Nat):Int):=by
 simp_all
def A4h(a b:Nat):(a:Int).tmod b=((a%b:Nat):Int)/\(-(a:Int)).tmod (-(b:Int))= -((a%b:Nat):Int)/\(-(a:Int)).tmod b= -((a%b:Nat):Int)/\(a:Int).tmod (-(b:Int))=((a%b:Nat):Int):=by
 refine ⟨(eQ a b).symm,?_,?_,?_⟩
 ·rw [Int.neg_tmod,Int.tmod_neg,eQ]
 ·rw [Int.neg_tmod,eQ]
 ·rw [Int.tmod_neg,eQ]
def Pl(i:ZI h s A an ac x)(j:ZI h s' B bn bc y)(hx:ZB m x)(hy:ZB m y)(hm:m<=6400000000)(hy0:y≠0)(hK:∀ s1 A1 n1 c1 s2 A2 n2 c2 h',h.le h'->ZI h' s1 A1 n1 c1 (x.tdiv y)->ZI h' s2 A2 n2 c2 (x.tmod y)->K (.tuple #[.agg #[.bool s1,.slice A1 n1 c1],.agg #[.bool s2,.slice A2 n2 c2]]) h'):aY prog 236 #[.agg #[.bool s,.slice A an ac],.agg #[.bool s',.slice B bn bc]] h K:=by
 have p:=i.len hx hm
 have r:=j.len hy hm
 have u:=j.zeroIff
 have a:=Bw i.sgn
 have b:=Bw j.sgn
 refine (fnk func236 (os:=[(4,[0,1,2,3,4,5,7,8,9,6,10,11,12])]) (own:=[2,3,4,5])) ?_
 refine C8 (fun e=>o) (fun _=>?_)
 refine V4 i.mag j.mag i.cap j.cap o o o ?_
 intro A1 q c1 A2 k c2 l g c d M1 M2
 refine ⟨_,_,_,_,_,_,rfl,?_⟩
 refine K6 (neg:= !(s==s')) M1 c ?_
 intro s1 i1
 refine ⟨_,_,_,_,rfl,B0 _,?_⟩
 refine K6 (neg:=s) M2 d ?_
 intro s2 n
 refine ⟨_,_,_,_,rfl,B0 _,hK _ _ _ _ _ _ _ _ _ g ?_ ?_⟩
 ·have e:(if (!(s==s'))=true then -((x.natAbs/y.natAbs:Nat):Int) else ((x.natAbs/y.natAbs:Nat):Int))=x.tdiv y:=by
   have t:=B2h x.natAbs y.natAbs
   rcases a with ⟨rfl,hx'⟩|⟨rfl,hx'⟩<;>rcases b with ⟨rfl,hy'⟩|⟨rfl,hy'⟩<;>rw [<- hx',<- hy'] at t
   ·exact t.2.1.symm
   ·exact t.2.2.1.symm
   ·exact t.2.2.2.symm
   grind
  grind
 ·have e:(if s=true then -((x.natAbs%y.natAbs:Nat):Int) else ((x.natAbs%y.natAbs:Nat):Int))=x.tmod y:=by
   have t:=A4h x.natAbs y.natAbs
   rcases a with ⟨rfl,hx'⟩|⟨rfl,hx'⟩<;>rcases b with ⟨rfl,hy'⟩|⟨rfl,hy'⟩<;>rw [<- hx',<- hy'] at t
   ·exact t.2.1.symm
   ·exact t.2.2.1.symm
   ·exact t.2.2.2.symm
   grind
  grind
def F0(i:ZI h s A an ac x)(hK:K (.bool (decide (x=0))) h):aY prog 109 #[.agg #[.bool s,.slice A an ac]] h K:=by
 have a:=i.zeroIff
 refine (fnk func109 (own:=[1])) ?_
 have:((an:Int)==0)=decide (x=0):=by
  grind
 grind
def N6(i:ZI h s A an ac x)(hK:K (.bool (decide (x=1))) h):aY prog 56 #[.agg #[.bool s,.slice A an ac]] h K:=by
 have c:=Bw i.sgn
 have p:=i.zeroIff
 have M:=i.mag
 refine (fnk func56 (own:=[1])) ?_
 rcases c with ⟨rfl,g⟩|⟨rfl,g⟩
 ·refine Br.of (fun e=>by cases e) (fun _=>?_)
  rw [show decide (x=1)=false from gz0] at hK;exact hK
 ·refine Br.of (fun _=>?_) (fun e=>by cases e)
  obtain ⟨xs,a,d,n,m,b⟩:=M
  refine C8 (fun e=>?_) (fun e=>?_)
  ·obtain ⟨w,rfl⟩:∃ w,xs=[w]:=by
    rcases xs with _|⟨w,_|⟨k,r⟩⟩
    ·grind
    ·grind
    grind
   refine d.load a o o ?_
   rw [Er] at b
   grind
  ·have:¬ x=1:=by
    rintro rfl
    have l:=i.mag.len_le (j:=1) dc dc
    omega
   grind
def P0(i:ZI h s A an ac x)(j:ZI h s' B bn bc y)(hx:ZB m x)(hy:ZB m y)(hm:m<=6400000000)(hy0:y≠0)(hK:∀ s1 A1 n1 c1 h',h.le h'->ZI h' s1 A1 n1 c1 (x.tdiv y)->K (.agg #[.bool s1,.slice A1 n1 c1]) h'):aY prog 168 #[.agg #[.bool s,.slice A an ac],.agg #[.bool s',.slice B bn bc]] h K:=by
 refine (fnk func168 (own:=[2,3,4,5,6])) ?_
 refine N6 j ⟨_,rfl,B4 (fun e=>?_) (fun e=>?_)⟩
 ·subst e
  exact hK _ _ _ _ _ (B0 _) gz0
 ·refine Pl i j hx hy hm hy0 ?_
  grind
def A2g(i:ZI h s A an ac x)(j:ZI h s' B bn bc y)(hx:ZB m x)(hm:m<=6400000000)(hK:K (.bool (decide (x=y))) h):aY prog 285 #[.agg #[.bool s,.slice A an ac],.agg #[.bool s',.slice B bn bc]] h K:=by
 have d:=i.len hx hm
 have c:=i.sgn
 have b:=j.sgn
 refine (fnk func285 (own:=[2,3])) ?_
 refine Br.of (fun e=>?_) (fun e=>?_)
 ·refine G8 i.mag j.mag o ⟨_,rfl,?_⟩
  have:(Bb (x.natAbs:Int) y.natAbs==0)=decide (x=y):=by
   by_cases a:x=y
   ·subst a;unfold Bb;simp
   ·unfold Bb
    grind
  grind
 ·have:¬ x=y:=gz0
  grind
def N5{n:Int}(h1: -9223372036854775808<=n)(h2:n<=9223372036854775807)(hK:∀ s1 A1 n1 c1 h',h.le h'->ZI h' s1 A1 n1 c1 n->K (.agg #[.bool s1,.slice A1 n1 c1]) h'):aY prog 87 #[I n] h K:=by
 refine (fnk func87 (own:=[2])) ?_
 refine B4 (fun d=>?_) (fun d=>?_)
 ·have e:C6 (0-C6 n)=(n.natAbs:Int):=by rw [J0,J0];omega
  rw [e]
  refine Bl o ?_
  intro A1 c c1 h1 b a M1
  exact ⟨_,_,_,rfl,hK _ _ _ _ _ b ⟨a,M1,gz0⟩⟩
 ·have e:C6 n=(n.natAbs:Int):=by rw [J0];omega
  rw [e]
  refine Bl o ?_
  intro A1 c c1 h1 b a M1
  exact ⟨_,_,_,rfl,hK _ _ _ _ _ b ⟨a,M1,gz0⟩⟩
end
def A5p{P:dI}{t d e:cK}(ht:P.underlying t=some .string)(hd:P.underlying d=some (.slice e))(he:P.underlying e=some (.int .u8)){h:bJ}{l:List UInt8}{K:VP}
 (x:∀ A c h',h.le h'->l.length<=c->SlV h' A (yv l)->K (.slice A l.length c) h'):wpH P (convert t d (.string (bs l))) K h:=by
 unfold convert
 simp only [C1,E4 ht,E4 hd,E4 he]
 unfold Conv.stringToBytes
 simp only [C1]
 refine Ik rfl (fun tt=>?_)
 have n:(bs l).size=l.length:=by rfl
 have a:l.length<=(Question.appendCap (bs l).size 0 e).cut tt:=by
  simp only [Question.cut];omega
 generalize (Question.appendCap (bs l).size 0 e).cut tt=cap at *
 intro b r
 generalize hcs:((bs l).data.map (fun b=>bM .u8 b.toNat)++Array.replicate (cap-(bs l).size) (bM .u8 0))=cs
 have j:h.le (h.put b (.cells cs e (cs.size,cs.size+1))):=Heap.le_put _ r
 have m:(h.put b (.cells cs e)).freeze { block:=b,off:=cs.size } 1=h.put b (.cells cs e (cs.size,cs.size+1)):=by
  unfold Heap.freeze
  rw [iN dc]
  funext k
  by_cases g:k=b
  ·subst g
   simp only [if_true,B8,Option.map_some]
   rfl
  ·rw [iN g,B6 _ _ g,B6 _ _ g]
 refine ⟨cs,e,_,B8 _ _ _,?_⟩
 refine ⟨⟨_,B8 _ _ _⟩,?_⟩
 show K (.slice (some ⟨b,0,none⟩) (bs l).size cap) ((h.put b (.cells cs e)).freeze { block:=b,off:=cs.size } 1)
 rw [m,n]
 refine x _ _ _ j a (.inr ⟨_,rfl,?_⟩)
 intro i v p
 have s:i<l.length:=by
  have:=(List.getElem?_eq_some_iff.1 p).1
  simpa [yv] using this
 have q:eS ⟨b,0,none⟩ i=⟨b,i,none⟩:=by rw [D4,fT]
 rw [q,C4,<- hcs,Array.getElem?_append_left (by simp_all)]
 rw [<- p]
 simp [yv,bs]
def A3r{x y:Int}(hy:0<y):(x.tmod y<0->x/y=x.tdiv y-1)/\(0<=x.tmod y->x/y=x.tdiv y):=by
 have b:=Int.mul_tdiv_add_tmod x y
 have d: -y<x.tmod y/\x.tmod y<y:=by
  have c:=fL x.natAbs (show 0<y.natAbs from o)
  have t:=A4h x.natAbs y.natAbs
  grind
 refine ⟨fun h=>?_,fun h=>?_⟩
 ·refine (Yv (a:=x.tmod y+y) ?_ o o).1
  grind
 ·exact (Yv (a:=x.tmod y) o h o).1
def ZB.tdiv{m:Nat}{x y:Int}(h:ZB m x):ZB m (x.tdiv y):=by
 unfold ZB at *
 rw [Int.natAbs_tdiv]
 exact Nat.lt_of_le_of_lt (fH _ _) h
section
variable {h g:bJ} {K:VP} {A B:Option bU} {s s':Bool} {an ac bn bc m:Nat} {x y:Int}
def Tz(i:ZI h s A an ac x)(j:ZI h s' B bn bc y)(hx:ZB m x)(hy:ZB m y)(hm:m+1<=6400000000)(hy0:0<y)(hK:∀ s1 A1 n1 c1 h',h.le h'->ZI h' s1 A1 n1 c1 (x/y)->K (.agg #[.bool s1,.slice A1 n1 c1]) h'):aY prog 310 #[.agg #[.bool s,.slice A an ac],.agg #[.bool s',.slice B bn bc]] h K:=by
 have g:=A3r (x:=x) hy0
 refine (fnk func310 (os:=[(2,[0,2,1,3,4,5])]) (own:=[2,3,4,5,6])) ?_
 refine Pl i j hx hy o o ?_
 intro s1 A1 n1 c1 z A2 H c2 D d i1 n
 refine ⟨_,_,_,_,_,_,_,_,rfl,?_⟩
 refine O9 n ⟨_,rfl,B0 _,?_⟩
 refine O9 (j.mono d) ⟨_,rfl,B0 _,?_⟩
 rw [dZ hy0,Int.mul_one]
 have F: -1<=Int.sign (x.tmod y)/\Int.sign (x.tmod y)<=1:=by
  rcases Int.lt_trichotomy (x.tmod y) 0 with h|h|h
  ·rw [dK h];omega
  ·rw [h];decide
  ·rw [dZ h];omega
 rw [B5 o o]
 refine B4 (fun e=>?_) (fun e=>?_)
 ·have b:x.tmod y<0:=Int.sign_neg_iff.1 e
  refine N5 o o ?_
  intro G A3 u c3 E c p
  refine ⟨_,_,_,_,rfl,c,?_⟩
  refine Zj (m:=m+1) (i1.mono c) p (hx.tdiv.mono o) ?_ o ?_
  ·unfold ZB
   have:1<=2^m:=Nat.one_le_two_pow
   rw [fU];simp;omega
  ·intro r A4 w c4 C k l
   rw [<- g.1 b] at l
   exact ⟨_,_,_,_,rfl,k,hK _ _ _ _ _ (A0 d (A0 c k)) l⟩
 ·have a:0<=x.tmod y:=by
   by_cases q:x.tmod y<0
   ·exact absurd (by rw [dK q];decide) e
   ·omega
  rw [<- g.2 a] at i1
  exact hK _ _ _ _ _ d i1
end
def A68{ws:List Int}{k:Nat}(d:Dig b64 ws)(hl:ws.length=k+1)(h:b64^k<=val b64 ws):fB ws:=by
 intro e
 have:=(Il (B:=b64) dc d hl).1
 grind
section
variable {h g:bJ} {K:VP} {A B:Option bU} {ac bc:Nat}
def B4e{Invv:LP}{muv:LN}{d1:ByteArray}{n c:Nat}{chunk base:Int}{us:List Int}{hp hp2:bJ}(p:Pw hp2 g A n c us)(hn:n=us.length)(du:Dig b64 us)(nu:fB us)(hl:n<=9000000000000)(hch:0<=chunk/\chunk<18446744073709551616)(hba:1<=base/\base<18446744073709551616)
 (hK:∀ A' n' c' us' h' g',g.le g'->Pw h' g' A' n' c' us'->n'=us'.length->n'<=n+1->Dig b64 us'->fB us'->val b64 us'=chunk+base*val b64 us->Invv [.string ((d1).extract ((B9 ((eP (B9 (((eR d1:Nat):Int)-(1:Int))) (19:Int))+(1:Int))).toNat) ((d1).size)),.slice A' n' c'] h'/\muv [.string ((d1).extract ((B9 ((eP (B9 (((eR d1:Nat):Int)-(1:Int))) (19:Int))+(1:Int))).toNat) ((d1).size)),.slice A' n' c'] h'<muv [.string d1,.slice A n c] hp):
 Cg prog Invv muv d1 A n c chunk base hp hp2:=by
 have G:=C5 dc du
 refine ⟨fun l q=>∃ (k:Nat) (e:Int) (d:List Int),l=[U e,I k]/\k<=n/\(0<=e/\e<18446744073709551616)/\d.length=us.length/\Dig b64 d/\Pw q g A n c d/\d.drop k=us.drop k/\val b64 (d.take k)+b64^k*e=chunk+base*val b64 (us.take k),fun l _=>n-(iAt l 1).toNat,⟨0,chunk,us,rfl,o,hch,rfl,du,p,rfl,by simp [val]⟩,?_⟩
 rintro e i q ⟨k,F,d,aa,hk,j,s,y,pw,z,B⟩
 obtain ⟨rfl,rfl⟩:e=F/\i=(k:Int):=gz0
 refine B4 (fun h1=>?_) (fun h1=>?_)
 ·have O:=Q4 y k
  have E:=J9 z
  have T:=C7 b64 us k
  have D:d≠[]:=by rintro rfl;simp at s;omega
  obtain ⟨b,Q,w,hc⟩:=El pw D
  refine w.sl.load o o o ?_
  simp only [aC]
  generalize hx:d.getD k 0=x at *
  refine U8 O o j ⟨_,_,rfl,?_⟩
  obtain ⟨a,R,_⟩:=SlV.at w.sl (i:=k) (by simp_all)
  refine ⟨a,R,o,o,w.storeN F8 R o ?_⟩
  intro h4 S
  have W:=Mf O (show 0<=base/\base<18446744073709551616 from o) j
  have kP:=A15 (x*base+e)
  have X:B9 ((k:Int)+1)=((k+1:Nat):Int):=by rw [B5 o o];omega
  rw [X]
  have H:=S.priv (m:=n) (c:=c) (by simp_all) (by simp_all) (by simp_all)
  rw [aN (by simp_all)] at H
  refine ⟨⟨k+1,_,_,rfl,o,W,by simp_all,y.set (Dx _),H,?_,?_⟩,by simp only [iAt,aI,aP];omega⟩
  ·rw [G7 o];exact H9 z
  ·rw [E6 o,J4,aK,aJ o,bF,T,<- E,kP]
   grind
 ·obtain rfl:k=n:=o
  rw [aN (show d.length<=k from o),aN (show us.length<=k from o)] at B
  refine D6 (fun N=>?_) (fun N=>?_)
  ·refine Gy Q6 pw rfl rfl o o ?_
   intro A5 c5 h5 g5 V L
   rw [<- List.map_singleton (f:=bM .u64),<- eG] at L
   refine hK A5 (k+1) c5 (d++[e]) h5 g5 V L (by simp_all) o (y.append (Dig.one j)) ?_ ?_
   ·unfold fB;simp_all
   ·rw [J4,<- B,s,<- hn]
  ·subst N
   rw [eC,eD] at B
   refine hK A k c d q g (B0 _) pw o o y ?_ B
   rcases us with _|⟨u,r⟩
   ·simp_all
   ·refine A68 (k:=r.length) y o ?_
    have M:Mw hp2 A k (val b64 (u::r)):=⟨_,hn,p.slV,du,nu,rfl⟩
    have C:=M.ge dc (by simp_all)
    rw [show k-1=r.length by simp_all] at C
    have:1*val b64 (u::r)<=base*val b64 (u::r):=aE hba.1 G
    omega
end
section
variable {h g:bJ} {K:VP} {A B:Option bU} {ac bc:Nat}
def B56{k:Nat}(h:k<=19):10^k<=10000000000000000000:=Nat.le_trans (Nat.pow_le_pow_right dc h) dc
def A6t{Invv:LP}{muv:LN}{d1:ByteArray}{n c tn:Nat}{T:Option bU}{l:List UInt8}{hp hp1:bJ}(sv:SlV hp1 T (yv l))(ht:tn=l.length)(hd:∀ c∈l,L9 c)(h19:l.length<=19)
 (hK:(0<=B9 ((eP (B9 (((eR d1:Nat):Int)-(1:Int))) (19:Int))+(1:Int))/\B9 ((eP (B9 (((eR d1:Nat):Int)-(1:Int))) (19:Int))+(1:Int))<=(((d1).size:Nat):Int))/\Cg prog Invv muv d1 A n c (S6 l:Int) ((10^l.length:Nat):Int) hp hp1):
 Jo prog Invv muv d1 A n c T tn hp1 hp:=by
 refine ⟨fun s hp=>hp=hp1/\∃ k:Nat,s=[U (S6 (l.take k)),U ((10^k:Nat):Int),I k]/\k<=l.length,fun s _=>l.length-(iAt s 2).toNat,⟨rfl,0,by rfl,o⟩,?_⟩
 rintro C D i z ⟨rfl,k,g,B⟩
 obtain ⟨rfl,rfl,rfl⟩:=g
 refine B4 (fun x=>?_) (fun x=>?_)
 ·have b:k<l.length:=o
  obtain ⟨a,u,m⟩:=SlV.at sv (i:=k) (by rw [Gj];omega)
  have j:=hd l[k] (List.getElem_mem b)
  have e:=Kg (l:=l.take k) (fun c m=>hd c (List.mem_of_mem_take m))
  rw [aK,aJ o] at e
  have r:=B56 (k:=k+1) o
  have d:10^(k+1)=10^k*10:=fU _ _
  refine ⟨a,u,o,o,((l[k].toNat:Nat):Int),?_,?_⟩
  ·rw [aC,fF,m];simp [yv]
  ·unfold L9 at j
   have p:C6 (wu8 (((l[k].toNat:Nat):Int)-48))=((l[k].toNat-48:Nat):Int):=by
    rw [A4a o o,C3 o o];omega
   have y:C6 (C6 (10*((S6 (l.take k):Nat):Int))+C6 (wu8 (((l[k].toNat:Nat):Int)-48)))=((S6 (l.take (k+1)):Nat):Int):=by
    rw [p,C3 (n:=10*((S6 (l.take k):Nat):Int)) o o,C3 o o,List.take_succ_eq_append_getElem b,Mo];omega
   have q:C6 (((10^k:Nat):Int)*10)=((10^(k+1):Nat):Int):=by rw [C3 o o,d];simp
   have w:B9 ((k:Int)+1)=((k+1:Nat):Int):=by rw [B5 o o];omega
   rw [y,q,w]
   exact ⟨⟨rfl,k+1,rfl,o⟩,by simp only [iAt,aI,aP];omega⟩
 grind
def Qk{l:List UInt8}(hd:∀ c∈l,L9 c)(hl:l.length<=140737488351232)(hK:∀ A n c h',h.le h'->n<=c->Mw h' A n (S6 l:Int)->K (.slice A n c) h'):aY prog 249 #[.string (bs l)] h K:=by
 refine Tr _ ?_
 refine ⟨fun s F=>∃ (e a:List UInt8) (b:List Int) (A:Option bU) (n c:Nat) (g:bJ),s=[.string (bs a),.slice A n c]/\l=e++a/\h.le g/\Pw F g A n c b/\n=b.length/\Dig b64 b/\fB b/\val b64 b=(S6 e:Int)/\19*n<=e.length+18/\(n=0\/a.length%19=0),fun s _=>match s with|[.string d,_]=>d.size|_=>0,⟨[],l,[],none,0,0,h,rfl,rfl,B0 h,Priv.nil _ _ _ _,rfl,Dig.nil,Norm.nil,rfl,o,.inl rfl⟩,?_⟩
 rintro d1 A1 n1 c1 F ⟨e,a,b,A2,n2,c2,g,hs,i,D,p,L,C,H,M,X,N⟩
 obtain ⟨rfl,rfl,rfl,rfl⟩:=hs
 have E:l.length=e.length+a.length:=gz0
 rw [P3]
 refine B4 (fun S=>?_) (fun S=>?_)
 ·obtain ⟨sz,hsz⟩:∃ sz,sz=(a.length-1)%19+1:=⟨_,rfl⟩
  have z:B9 (eP (B9 ((a.length:Int)-1)) 19+1)=(sz:Int):=by
   rw [B5 (n:=(a.length:Int)-1) o o,cO o,B5 o o];omega
  rw [z,aC,T5]
  refine ⟨⟨o,o⟩,A5p Z1 Gv.und Dm ?_⟩
  intro T tc h2 l2 ab G
  refine ⟨_,_,_,rfl,?_⟩
  have W:(a.drop 0).take (sz-0)=a.take sz:=by simp
  rw [W] at G ⊢
  have B:(a.take sz).length=sz:=gz0
  obtain ⟨g2,m,Q⟩:=p.after l2
  refine A6t G rfl (fun c hc=>hd c gz0) o ?_
  rw [P3,z]
  refine ⟨⟨o,o⟩,?_⟩
  have j:=Kg (l:=a.take sz) (fun c hc=>hd c gz0)
  rw [B] at j ⊢
  have ht:=B56 (k:=sz) o
  refine B4e Q L C H o o o ?_
  intro A' O R r h' V q p' x aa w y u
  rw [P3,z,aC,T5,aN gz0]
  refine ⟨⟨e++a.take sz,a.drop sz,r,A',O,R,V,rfl,by simp_all,A0 D (A0 m q),p',x,w,y,?_,?_,?_⟩,?_⟩
  ·rw [u,M,Kh,B,eJ,cF,aV];omega
  ·rw [aX,B];omega
  ·rw [cC];omega
  ·simp only [P3,cC];omega
 ·have:a=[]:=bH o
  subst this
  rw [cD] at i
  subst i
  exact hK _ _ _ _ (A0 D p.le) p.2.1 ⟨b,L,p.slV,C,H,M⟩
end
