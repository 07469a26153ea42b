/-
  Texts of this proof, merged by a program of ours.
-/
import Derived.Test.YtajkakhfcokljaaGreatDoorG18
import Derived.Test.YtajkakhfcokljaaGreatDoorG19
import Derived.Test.YtajkakhfcokljaaGreatDoorG07
import Derived.Test.YtajkakhfcokljaaGreatDoorG16
open Go.Proofs.Tryz
set_option linter.all false
open _root_.Go.Builtin renaming copy_->B9t
open _root_.Go.Extern.MathBitsCarry renaming m64->B8o,pair->C0g
open _root_.Go.Instr renaming storeAt->B9s
open Int renaming toNat_natCast->B8g,mul_le_mul_of_nonneg_right->B8h,mul_le_mul_of_nonneg_left->B8k,mul_ediv_add_emod->B8n,le_of_lt->B8q,mul_nonneg->B8s,emod_lt_of_pos->B8t,mul_comm->B8w,emod_nonneg->B8y,tdiv_eq_ediv_of_nonneg->B91,pow_add->B93,pow_succ->B94,ediv_lt_of_lt_mul->B98,ediv_eq_zero_of_lt->B99,pow_pos->B9a,ediv_nonneg->B9c,mul_lt_mul_of_pos_right->B9h,tmod_eq_emod_of_nonneg->B9i,mul_lt_mul_of_pos_left->B9j,mul_add->B9l,mul_assoc->B9m,zero_add->B9q,mul_le_mul->B9r,add_mul_ediv_right->B9u,add_comm->C00,lt_of_le_of_lt->C01,emod_eq_of_lt->C02,mul_zero->C04,add_zero->C05,ediv_le_self->C09,add_mul_emod_self_right->C0b,fdiv_eq_ediv_of_nonneg->C0d
open List renaming replicate->B8i,length_take->B8j,getElem?_cons_zero->B8l,length_drop->B8p,length_append->B8r,take_of_length_le->B8u,getElem?_cons_succ->B8v,take_length->B8x,drop_of_length_le->B8z,drop_replicate->B90,length_set->B95,eq_nil_of_length_eq_zero->B96,append_assoc->B97,take_replicate->B9f,append_nil->B9g,drop_drop->B9k,take_left'->B9n,nil_append->B9o,getD->B9p,take_append_drop->B9v,map_append->B9w,getElem?_toArray->B9x,getElem?_eq_none->B9y,drop_left'->B9z,drop_length->C06,drop_append_of_le_length->C07,drop_append->C08,length_map->C0a,getElem?_append_right->C0c,drop_zero->C0e,drop_eq_getElem_cons->C0f
open Nat renaming min_eq_left->B8m,le_refl->B92,sub_zero->B9d,add_sub_cancel_left->B9e,add_zero->C03
open _root_.Go.Value renaming int->B9b
namespace Go.Proofs.YtajkakhfcokljaaGreatDoor
set_option maxRecDepth 20000
open Go
theorem Bi:prog.underlying F9=some (.int .u8):=by kernel_rfl
theorem R7:prog.underlying A4a=some .string:=by kernel_rfl
def pv:List Nat->Nat
 | []=>0
 | d::r=>d+1000000000*pv r
def pw(e:Nat):Nat:=if e=0 then 0 else 10^(e-1)
section
variable {h h':Heap} {K:VP} {A B:Option Addr} {n c n' c':Nat} {s s':Bool} {x y z:Int} {m:Nat} {p q:Rat} {a b w:QV}
end
theorem A0h{l:List UInt8}(h:∀ c∈l,I0 c):L8 l<2^(4*l.length):=by
 have h1:=Hf h
 have h2:10^l.length<=16^l.length:=Nat.pow_le_pow_left (by decide) _
 have h3:16^l.length=2^(4*l.length):=by rw [Nat.pow_mul]
 omega
section
variable {h h':Heap} {K:VP} {A B:Option Addr} {n c n' c':Nat} {s s':Bool} {x y z:Int} {m:Nat} {p q:Rat} {a b w:QV} {l:List UInt8}
theorem Hh{n m:Nat}(h:n<2^m):(L6 n).length<=m+1:=by
 rw [Iy (by omega)]
 have:2^m<=10^(m+1):=Nat.le_trans (Nat.pow_le_pow_left (by decide) m) (Nat.pow_le_pow_right (by decide) (by omega))
 omega
end
def ndg(x:Nat):Nat:=x*78913/262144
theorem B0i:∀ x,x<65->2^x<=10^(ndg x+1)/\(ndg x=0\/10^(ndg x-1)<=2^(x-1))/\ndg x<=19:=by decide
theorem Xv{n k:Nat}(h1:10^k<=n)(h2:n<10^(k+1)):(dd n).length=k+1:=by
 have a:=(P0 (n:=n) (k:=k+1)).2 h2
 have b:¬ (dd n).length<=k:=fun e=>by have:=P0.1 e;omega
 omega
theorem B4c{d:Nat}(h0:d≠0)(h:d<2^64):(dd d).length=ndg (O7 d)+(if 10^ndg (O7 d)<=d then 1 else 0):=by
 have hb:=Hj h
 obtain ⟨b1,b2⟩:=Eu h0
 obtain ⟨a1,a2,a3⟩:=B0i (O7 d) (by omega)
 split
 ·rename_i hc
  exact Xv hc (by omega)
 ·rename_i hc
  rcases a2 with a2|a2
  ·rw [a2] at hc;simp at hc;omega
  ·obtain ⟨k,hk⟩:∃ k,ndg (O7 d)=k+1:=by
    by_cases hz:ndg (O7 d)=0
    ·rw [hz] at hc;simp at hc;omega
    ·exact ⟨ndg (O7 d)-1,by omega⟩
   rw [hk] at hc a2 ⊢
   rw [Nat.add_sub_cancel] at a2
   rw [C03]
   exact Xv (by omega) (by omega)
theorem B2c(w n:Nat):pad (w+2) n=pad w (n/100)++[dch (n/10%10),dch (n%10)]:=by
 rw [Na,Na,Nat.div_div_eq_div_mul];simp
theorem A55(n:Nat)(h:n=0):pad 0 n=[]:=by subst h;simp [pad,K0]
abbrev b64:Int:=18446744073709551616
abbrev Mw(h:Heap)(A:Option Addr)(len:Nat)(n:Int):Prop:=Mag .u64 b64 h A len n
structure Win (k:IntKind) (h g:Heap) (b:Nat) (e:TypeId) (A:Option Addr) (pre:List Value) (xs:List Int) (post:List Value):Prop where
 free:g b=none
 eq:h=g.put b (.cells (pre++xs.map (B9b k)++post).toArray e)
 at_:xs=[]\/A=some ⟨b,pre.length,none⟩
section
variable {k:IntKind} {h g:Heap} {b:Nat} {e:TypeId} {A:Option Addr} {pre post:List Value} {xs:List Int}
theorem Win.le(w:Win k h g b e A pre xs post):g.le h:=by rw [w.eq];exact Heap.le_put _ w.free
theorem Win.sl(w:Win k h g b e A pre xs post):SlI k h A xs:=by
 rcases w.at_ with rfl|hA
 ·exact SlI.nil
 ·right
  refine ⟨_,hA,fun i v hv=>?_⟩
  rw [w.eq,D3,D6]
  have hi:i<(xs.map (B9b k)).length:=by
   by_cases hc:i<(xs.map (B9b k)).length
   ·exact hc
   ·rw [B9y (by omega)] at hv;cases hv
  simp only [B9x]
  rw [B97,C0c (by omega),B9e,List.getElem?_append_left hi]
  exact hv
theorem Win.store{P:Program}{t:TypeId}(one:P.cellsOf t=1/\(P.info? t).isSome=true)(w:Win k h g b e A pre xs post){a:Addr}(ha:A=some a){i v:Int}(h0:0<=i)(h1:i<xs.length){K:Unit->Heap->Prop}
 (x:∀ h',Win k h' g b e A pre (xs.set i.toNat v) post->K () h'):wpH P (B9s t (.pointer (some (Addr.add a (i.toNat*1)))) (.int k v)) K h:=by
 have hi:i.toNat<xs.length:=by omega
 have hA:A=some ⟨b,pre.length,none⟩:=by
  rcases w.at_ with rfl|hA
  ·simp at hi
  ·exact hA
 rw [ha] at hA
 cases hA
 rw [w.eq,D3,Nat.mul_one]
 refine Bk one.1 one.2 rfl rfl (by simp;omega) ?_
 refine x _ ⟨w.free,?_,.inr ha⟩
 have:(pre++xs.map (B9b k)++post).toArray.setIfInBounds (pre.length+i.toNat) (.int k v)=(pre++(xs.set i.toNat v).map (B9b k)++post).toArray:=by
  rw [List.map_set]
  simp only [List.setIfInBounds_toArray,B97]
  congr 1
  rw [List.set_append_right _ _ (by omega),B9e,List.set_append_left _ _ (by simpa using hi)]
 rw [this]
theorem Win.storeN{P:Program}{t:TypeId}(one:P.cellsOf t=1/\(P.info? t).isSome=true)(w:Win k h g b e A pre xs post){a:Addr}(ha:A=some a){i:Nat}{v:Int}(h1:i<xs.length){K:Unit->Heap->Prop}
 (x:∀ h',Win k h' g b e A pre (xs.set i v) post->K () h'):wpH P (B9s t (.pointer (some (Addr.add a (i*1)))) (.int k v)) K h:=by
 have:=w.store one ha (i:=(i:Int)) (v:=v) (K:=K) (by omega) (by omega) (by simpa using x)
 simpa using this
theorem Win.call{P:Program}{f:FuncId}{args:Array Value}(w:Win k h g b e A pre xs post){K:VP}(x:FCall P f args g (fun r h0=>∀ h',Win k h' h0 b e A pre xs post->K r h')):FCall P f args h K:=by
 rw [w.eq]
 exact FCall.frame w.free x fun r h0 h0b hk=>hk _ ⟨h0b,rfl,w.at_⟩
theorem Win.blk(k:IntKind)(e:TypeId){g:Heap}{b:Nat}(hb:g b=none)(zs:List Int):Win k (Go.Proofs.YtajkakhfcokljaaGreatDoor.blk k e g b zs) g b e (some ⟨b,0,none⟩) [] zs []:=
 ⟨hb,by simp [Go.Proofs.YtajkakhfcokljaaGreatDoor.blk],.inr rfl⟩
theorem Win.sub(w:Win k h g b e A pre xs post){l m c:Nat}(hl:l<=m)(hm:m<=xs.length)(hc:xs.length<=c):
 Win k h g b e (J1 A c l 1) (pre++(xs.take l).map (B9b k)) ((xs.drop l).take (m-l)) ((xs.drop m).map (B9b k)++post):=by
 refine ⟨w.free,?_,?_⟩
 ·rw [w.eq]
  congr 3
  have:xs=xs.take l++((xs.drop l).take (m-l)++xs.drop m):=by
   have e1:xs.drop m=(xs.drop l).drop (m-l):=by rw [B9k];congr 1;omega
   rw [e1,B9v,B9v]
  conv=>lhs;rw [this]
  simp [B9w,B97]
 ·by_cases he:m-l=0
  ·left;simp [he]
  ·right
   rcases w.at_ with rfl|hA
   ·simp at hm;omega
   ·unfold J1
    rw [if_neg (by omega),hA]
    simp only [Option.map_some,D3,Nat.mul_one,B8r,C0a,B8j]
    rw [B8m (by omega)]
theorem Win.whole{h' g':Heap}(w:Win k h g b e A pre xs post){l m:Nat}(hl:l<=m)(hm:m<=xs.length){B:Option Addr}{ys:List Int}(hy:ys.length=m-l)(v:Win k h' g' b e B (pre++(xs.take l).map (B9b k)) ys ((xs.drop m).map (B9b k)++post)):
 Win k h' g' b e A pre (xs.take l++ys++xs.drop m) post:=by
 refine ⟨v.free,?_,?_⟩
 ·rw [v.eq]
  congr 3
  simp [B9w,B97]
 ·rcases w.at_ with rfl|hA
  ·left
   simp at hm
   have:ys=[]:=B96 (by omega)
   simp [this]
  ·exact .inr hA
theorem Priv.win{n c:Nat}(p:Priv h g e 1 A n c (xs.map (B9b k)))(hx:xs≠[]):∃ b post,Win k h g b e A [] xs post:=by
 obtain ⟨h1,h2,h3⟩:=p
 rcases h3 with ⟨hc,rfl⟩|⟨b,arr,hA,hb,rfl,h4,h5⟩
 ·simp at h1
  exact absurd (B96 (by omega)) hx
 ·refine ⟨b,arr.drop (n*1),hb,?_,.inr hA⟩
  rw [B9o,<- h5,B9v]
end
theorem Bu{P:Program}{t:TypeId}(one:P.cellsOf t=1/\(P.info? t).isSome=true){k:IntKind}{n:Int}{i:Nat}{g:Heap}{b:Nat}{e:TypeId}{zs:List Int}(hi:i<zs.length){K:Unit->Heap->Prop}
 (x:K () (blk k e g b (zs.set i n))):wpH P (B9s t (.pointer (some (Addr.add ⟨b,0,none⟩ (i*1)))) (.int k n)) K (blk k e g b zs):=by
 have:=Pl (P:=P) (t:=t) one (k:=k) (n:=n) (i:=(i:Int)) (g:=g) (b:=b) (e:=e) (zs:=zs) (K:=K) (by simpa using hi) (by simpa using x)
 simpa using this
theorem Da{P:Program}{t e e' ty:TypeId}{k:IntKind}{bytes:Nat}(s:SliceT P t e' (.int k 0) 1 bytes){h g:Heap}{b:Nat}{A:Option Addr}{pre post:List Value}{xs:List Int}{n c m d:Nat}(w:Win k h g b e A pre xs post)(hn:n=xs.length){B:Option Addr}{ys:List Int}(sy:SlI k h B ys)(hm:m=ys.length)(hle:ys.length<=xs.length){K:VP}
 (x:∀ h',Win k h' g b e A pre (ys++xs.drop ys.length) post->K (I ys.length) h'):wpH P (B9t #[t,t] ty #[.slice A n c,.slice B m d]) K h:=by
 subst hn hm
 obtain ⟨i,hi,hz,hsz,hby⟩:=s.parts
 unfold B9t
 simp only [B9x,B8l,B8v,C2,D7 s.und,K3 hi,E8,Builtin.lenOf,hsz]
 have hmin:Nat.min ys.length xs.length=ys.length:=B8m hle
 rw [hmin]
 refine J3 (s:=1) (cs:=ys.map (B9b k)) (by simp) sy ?_
 cases A with
 | none=>
  rcases w.at_ with h0|h0
  ·subst h0
   have:ys=[]:=B96 (by simpa using hle)
   subst this
   exact x h (by simpa using w)
  ·cases h0
 | some a=>
  simp only [C2]
  rcases w.at_ with h0|h0
  ·subst h0
   have:ys=[]:=B96 (by simpa using hle)
   subst this
   exact x h (by simpa using w)
  ·cases h0
   rw [w.eq]
   refine I4 (ys.map (B9b k)) pre.length 0 (pre++xs.map (B9b k)++post) (by simp;omega) (fun v hv=>?_) ?_
   ·obtain ⟨u,_,rfl⟩:=List.mem_map.1 hv;rfl
   ·refine x _ ⟨w.free,?_,?_⟩
    ·congr 3
     unfold K4
     rw [C03,B97 pre,B9n rfl,C0a]
     rw [C08,B8z (show pre.length<=pre.length+ys.length by omega),B9e,B9o]
     rw [C07 (by simpa using hle),<- List.map_drop,B9w]
     simp only [B97]
    ·right;rfl
theorem A1d{P:Program}{nm:String}{x y c:Int}(hc:0<=c/\c<=1){f:Nat × Nat × Nat->Value}:Jx P (Extern.MathBitsCarry.three nm #[U x,U y,U c] >>= fun p=>pure (f p))=some (f (x.toNat,y.toNat,c.toNat)):=by
 obtain rfl|rfl:c=0\/c=1:=by omega
 ·rfl
 ·rfl
theorem A5j:B8o=18446744073709551616:=by decide
theorem Ao{h:Heap}{K:VP}{x y c:Int}(hx:0<=x/\x<18446744073709551616)(hy:0<=y/\y<18446744073709551616)(hc:0<=c/\c<=1)(hK:K (.tuple #[U ((x+y+c)%18446744073709551616),U ((x+y+c)/18446744073709551616)]) h):ECall prog P3 #[U x,U y,U c] h K:=by
 refine B0u A3u (A1d (P:=prog) hc (f:=fun p=>C0g ((p.1+p.2.1+p.2.2)%B8o) ((p.1+p.2.1+p.2.2)/B8o))) ?_
 have e1:((x.toNat+y.toNat+c.toNat)%B8o:Nat)=(((x+y+c)%18446744073709551616:Int)):=by
  rw [A5j]
  omega
 have e2:((x.toNat+y.toNat+c.toNat)/B8o:Nat)=(((x+y+c)/18446744073709551616:Int)):=by
  rw [A5j]
  omega
 show K (.tuple #[U ((x.toNat+y.toNat+c.toNat)%B8o:Nat),U ((x.toNat+y.toNat+c.toNat)/B8o:Nat)]) h
 rw [e1,e2];exact hK
theorem Cj{h:Heap}{K:VP}{x y c:Int}(hx:0<=x/\x<18446744073709551616)(hy:0<=y/\y<18446744073709551616)(hc:0<=c/\c<=1)(hK:K (.tuple #[U ((x-y-c)%18446744073709551616),U (if x-y-c<0 then 1 else 0)]) h):ECall prog X7 #[U x,U y,U c] h K:=by
 refine B0u A3s (A1d (P:=prog) hc (f:=fun p=>C0g ((p.1+B8o-p.2.1-p.2.2)%B8o) (if p.1<p.2.1+p.2.2 then 1 else 0))) ?_
 have e1:((x.toNat+B8o-y.toNat-c.toNat)%B8o:Nat)=(((x-y-c)%18446744073709551616:Int)):=by
  rw [A5j]
  omega
 have e2:(((if x.toNat<y.toNat+c.toNat then 1 else 0:Nat):Nat):Int)=(if x-y-c<0 then 1 else 0):=by
  split<;>split<;>omega
 show K (.tuple #[U ((x.toNat+B8o-y.toNat-c.toNat)%B8o:Nat),U ((if x.toNat<y.toNat+c.toNat then 1 else 0:Nat):Nat)]) h
 rw [e1,e2];exact hK
def Qn(x y:Int):Int:=if x<y then -1 else if x>y then 1 else 0
theorem A5f{h:Heap}{K:VP}{x:Int}(hK:K (.bool false) h):FCall prog Fy #[I x] h K:=by
 refine A16 _ ?_
 unfold A2f
 have:(x != x)=false:=by simp
 rw [this];exact hK
theorem A5e{h:Heap}{K:VP}{x:Int}(hK:K (.bool false) h):FCall prog X6 #[U x] h K:=by
 refine Rg _ ?_
 unfold Qj
 have:(x != x)=false:=by simp
 rw [this];exact hK
theorem A6n{h:Heap}{K:VP}{x y:Int}(hK:K (I (Qn x y)) h):FCall prog Ut #[I x,I y] h K:=by
 refine A81 _ _ ?_
 unfold B1o
 refine A5f ⟨_,rfl,A5f ⟨_,rfl,?_⟩⟩
 unfold Qn at hK
 refine B7 (fun h1=>?_) (fun h1=>B7 (fun h2=>?_) (fun h2=>?_))
 ·rw [if_pos h1] at hK;exact hK
 ·rw [if_neg h1,if_pos h2] at hK;exact hK
 ·rw [if_neg h1,if_neg h2] at hK;exact hK
theorem A6m{h:Heap}{K:VP}{x y:Int}(hK:K (I (Qn x y)) h):FCall prog He #[U x,U y] h K:=by
 refine Yx _ _ ?_
 unfold Yy
 refine A5e ⟨_,rfl,A5e ⟨_,rfl,?_⟩⟩
 unfold Qn at hK
 refine B7 (fun h1=>?_) (fun h1=>B7 (fun h2=>?_) (fun h2=>?_))
 ·rw [if_pos h1] at hK;exact hK
 ·rw [if_neg h1,if_pos h2] at hK;exact hK
 ·rw [if_neg h1,if_neg h2] at hK;exact hK
theorem Ij{h:Heap}{K:VP}{x y:Int}(hx:0<=x/\x<18446744073709551616)(hy:0<=y/\y<18446744073709551616)(hK:K (.tuple #[U (x*y/18446744073709551616),U (x*y%18446744073709551616)]) h):FCall prog Cx #[U x,U y] h K:=by
 refine A83 _ _ ?_
 unfold B1p
 rw [Bv hx,Bv hy]
 simp only [B49]
 obtain ⟨b00,b10,b01,b11,hxy⟩:=A08 hx hy (x1:=x/4294967296) (x0:=x%4294967296) (y1:=y/4294967296) (y0:=y%4294967296) (by omega) (by omega) (by omega) (by omega)
 generalize x/4294967296*(y/4294967296)=p11 at *
 generalize x/4294967296*(y%4294967296)=p10 at *
 generalize x%4294967296*(y/4294967296)=p01 at *
 generalize x%4294967296*(y%4294967296)=p00 at *
 rw [C4 (n:=p00) (by omega) (by omega),C4 (n:=p10) (by omega) (by omega),C4 (n:=p01) (by omega) (by omega),C4 (n:=p11) (by omega) (by omega)]
 rw [C4 (n:=p10+p00/4294967296) (by omega) (by omega),Bv (by omega)]
 rw [C4 (n:=(p10+p00/4294967296)%4294967296+p01) (by omega) (by omega)]
 rw [C4 (n:=p11+(p10+p00/4294967296)/4294967296) (by omega) (by omega),C4 (by omega) (by omega),F1]
 have:p11+(p10+p00/4294967296)/4294967296+((p10+p00/4294967296)%4294967296+p01)/4294967296=x*y/18446744073709551616:=by
  rw [hxy];omega
 rw [this];exact hK
theorem O9{h:Heap}{K:VP}{x y c:Int}(hx:0<=x/\x<18446744073709551616)(hy:0<=y/\y<18446744073709551616)(hc:0<=c/\c<18446744073709551616)(hK:K (.tuple #[U ((x*y+c)%18446744073709551616),U ((x*y+c)/18446744073709551616)]) h):FCall prog J9 #[U x,U y,U c] h K:=by
 have hm:0<=x*y/\x*y<=18446744073709551615*18446744073709551615:=⟨B8s hx.1 hy.1,B9r (by omega) (by omega) hy.1 (by decide)⟩
 refine Pt _ _ _ ?_
 unfold Lo
 refine Ij hx hy ⟨_,_,rfl,?_⟩
 refine Ao (by omega) hc (by omega) ⟨_,_,rfl,?_⟩
 rw [C4 (by omega) (by omega)]
 have e1:(x*y%18446744073709551616+c+0)%18446744073709551616=(x*y+c)%18446744073709551616:=by omega
 have e2:x*y/18446744073709551616+(x*y%18446744073709551616+c+0)/18446744073709551616=(x*y+c)/18446744073709551616:=by omega
 rw [e1,e2];exact hK
theorem B30(a:Array UInt8):({ data:=a }:ByteArray)=bs a.toList:=by simp [bs]
def A5k:List UInt8:=[0,1,2,2,3,3,3,3,4,4,4,4,4,4,4,4,5,5,5,5,5,5,5,5,5,5,5,5,5,5,5,5]++B8i 32 6++B8i 64 7++B8i 128 8
theorem A2x:∀ i,i<256->(A5k[i]?).map UInt8.toNat=some (O7 i):=by decide
theorem Vc{x s:Nat}(h:2^s<=x):O7 x=s+O7 (x/2^s):=by
 have hp:0<2^s:=Nat.pow_pos (by decide)
 have h1:x/2^s≠0:=by
  have:=Nat.div_pos h hp;omega
 have:=A38 (l:=x%2^s) (t:=x/2^s) (j:=s) (Nat.mod_lt _ hp) h1
 rw [Nat.mod_add_div] at this
 exact this
theorem A1o{h:Heap}{K:VP}{x:Nat}(hx:x<18446744073709551616)(hK:K (I (O7 x)) h):FCall prog Nj #[U x] h K:=by
 refine A84 _ ?_
 unfold B1q
 have sh:∀ (y s:Nat),s<=64->Int.fdiv (y:Int) (2^(min ((s:Int)).toNat 64))=((y/2^s:Nat):Int):=by
  intro y s hs
  rw [B8g,B8m hs,C0d _ (B8q (B9a (by decide)))]
  simp
 refine ⟨fun l hp=>∃ (y n:Nat),l=[U y,I n]/\hp=h/\y<4294967296/\O7 x=n+O7 y/\n<=32,B7 (fun h1=>?_) (fun h1=>?_),?_⟩
 ·refine ⟨x/2^32,32,?_,rfl,by omega,Vc (by omega),by omega⟩
  rw [show (32:Int)=((32:Nat):Int) from rfl,sh x 32 (by omega)]
 ·exact ⟨x,0,rfl,rfl,by omega,by omega,by omega⟩
 rintro y1 n1 hp ⟨y,n,hl,rfl,hy,hb,hn⟩
 obtain ⟨rfl,rfl⟩:y1=(y:Int)/\n1=(n:Int):=by simpa using hl
 refine ⟨fun l hq=>∃ (y n:Nat),l=[U y,I n]/\hq=hp/\y<65536/\O7 x=n+O7 y/\n<=48,B7 (fun h1=>?_) (fun h1=>?_),?_⟩
 ·refine ⟨y/2^16,n+16,?_,rfl,by omega,by rw [hb,Vc (x:=y) (s:=16) (by omega)];omega,by omega⟩
  rw [show (16:Int)=((16:Nat):Int) from rfl,sh y 16 (by omega),B8 (by omega) (by omega)];rfl
 ·exact ⟨y,n,rfl,rfl,by omega,hb,by omega⟩
 clear hb hy hl
 rintro y1 n1 hp ⟨y,n,hl,rfl,hy,hb,hn⟩
 obtain ⟨rfl,rfl⟩:y1=(y:Int)/\n1=(n:Int):=by simpa using hl
 refine ⟨fun l hq=>∃ (y n:Nat),l=[U y,I n]/\hq=hp/\y<256/\O7 x=n+O7 y/\n<=56,B7 (fun h1=>?_) (fun h1=>?_),?_⟩
 ·refine ⟨y/2^8,n+8,?_,rfl,by omega,by rw [hb,Vc (x:=y) (s:=8) (by omega)];omega,by omega⟩
  rw [show (8:Int)=((8:Nat):Int) from rfl,sh y 8 (by omega),B8 (by omega) (by omega)];rfl
 ·exact ⟨y,n,rfl,rfl,by omega,hb,by omega⟩
 clear hb hy hl
 rintro y1 n1 hp ⟨y,n,hl,rfl,hy,hb,hn⟩
 obtain ⟨rfl,rfl⟩:y1=(y:Int)/\n1=(n:Int):=by simpa using hl
 rw [A19 (by omega) (by omega),B8g]
 have ht:=A2x y hy
 cases hc:A5k[y]? with
 | none=>rw [hc] at ht;cases ht
 | some c=>
  rw [hc] at ht
  have hcb:c.toNat=O7 y:=by simpa using ht
  refine ⟨c,⟨by omega,?_⟩,?_⟩
  ·try unfold A1n
   rw [B30,Sh];exact hc
  ·have hbl:O7 y<=8:=Hj (k:=8) (by omega)
   rw [hcb,B8 (n:=((O7 y:Nat):Int)) (by omega) (by omega),B8 (by omega) (by omega),<- Int.natCast_add,<- hb]
   exact hK
theorem N9{h:Heap}{K:VP}{x:Nat}(hx:x<18446744073709551616)(hK:K (I ((64-O7 x:Nat):Int)) h):FCall prog I7 #[U x] h K:=by
 refine Jp _ ?_
 unfold Fi
 refine A1o hx ⟨_,rfl,?_⟩
 have hbl:O7 x<=64:=Hj (k:=64) (by omega)
 rw [B8 (by omega) (by omega)]
 have:(64:Int)-((O7 x:Nat):Int)=((64-O7 x:Nat):Int):=by omega
 rw [this];exact hK
theorem Xx{a b:Int}{s:Nat}(ha:0<=a)(hb:0<=b/\b<2^s)(hab:a*2^s+b<18446744073709551616):bor .u64 (a*2^s) b=a*2^s+b:=by
 have hp:0<(2:Int)^s:=B9a (by decide)
 have h0:0<=a*2^s:=B8s ha (by omega)
 rw [A37 (by omega) (by omega)]
 have e:(a*2^s).toNat=2^s*a.toNat:=by
  rw [Int.toNat_mul ha (by omega),Nat.mul_comm,Int.toNat_pow_of_nonneg (by decide)];rfl
 have hbn:b.toNat<2^s:=by
  have:((2^s:Nat):Int)=(2:Int)^s:=by simp
  omega
 rw [e,B0g hbn,<- e];omega
theorem T7{s:Nat}(hs:s<=64):(2:Int)^s*2^(64-s)=18446744073709551616:=by
 rw [<- B93,show s+(64-s)=64 by omega];decide
theorem A8w{x:Int}{s:Nat}(hs:s<=64):Int.fdiv x (2^(min s 64))=x/2^s:=by
 rw [B8m hs];exact C0d x (B8q (B9a (by decide)))
theorem Est.exact{B top u2 v1 v2 U V:Int}(e:Est B 1 top u2 0 v1 v2 0 U V){q:Int}(h:q*(v1*B+v2)<=top*B+u2):q*V<=U:=by
 have h1:=e.hU
 have h2:=e.hV
 have e1:U=top*B+u2:=by rw [h1];omega
 have e2:V=v1*B+v2:=by rw [h2];omega
 rw [e1,e2];exact h
section
variable {h:Heap} {K:VP}
theorem A6g{T u2 v1 v2 X Y:Int}{hp:Heap}{J:Int->Heap->Prop}(es:Est 4294967296 1 T u2 0 v1 v2 0 X Y)(_hT:T<18446744073709551616)
 (hJ:∀ q,0<=q->q*Y<=X->X<(q+1)*Y->J q hp):
 ∃ (Inv:Int->Int->Heap->Prop) (mu:Int->Int->Heap->Nat),Inv (T/v1) (T%v1) hp/\
  ∀ q r hp1,Inv q r hp1->(q>=4294967296->Inv q r hp1)/\0<=q/\q<=4294967297/\0<=r/\r<4294967296/\hp1=hp/\
   (q<4294967296->¬ (q*v2>4294967296*r+u2)->J q hp1)/\
   ((q>=4294967296\/q*v2>4294967296*r+u2)->1<=q/\(r+v1>=4294967296->J (q-1) hp1)/\(r+v1<4294967296->Inv (q-1) (r+v1) hp1/\mu (q-1) (r+v1) hp1<mu q r hp1)):=by
 obtain ⟨f1,f2⟩:=es.first
 have hin:=es.init
 have hv0:=es.V0
 have hU0:=es.U0
 have v1r:=es.v1r
 have v2r:=es.v2r
 have u2r:=es.u2r
 have top0:=es.top0
 have hq0:0<=T/v1:=B9c top0 (by omega)
 have hdm:=B8n T v1
 have hm0:=B8y T (show v1≠0 by omega)
 have hm1:=B8t T (show 0<v1 by omega)
 refine ⟨fun q r hp1=>hp1=hp/\0<=q/\q<=4294967297/\0<=r/\r<4294967296/\q*v1+r=T/\X<(q+1)*Y,fun q _ _=>q.toNat,⟨rfl,hq0,by omega,hm0,by omega,by rw [B8w];exact hdm,hin⟩,?_⟩
 rintro q r hp1 ⟨rfl,q0,q1,r0,r1,hqr,hlt⟩
 have key:q*(v1*4294967296+v2)=(T-r)*4294967296+q*v2:=by rw [<- hqr];grind
 refine ⟨fun _=>⟨rfl,q0,q1,r0,r1,hqr,hlt⟩,q0,q1,r0,r1,rfl,fun hb ht=>hJ q q0 (es.exact (by omega)) hlt,fun hbad=>?_⟩
 have hlq:X<q*Y:=by
  rcases hbad with hb|hb
  ·exact es.big hb
  ·exact es.low q0 (by omega)
 have hq1:1<=q:=by
  by_cases hc:1<=q
  ·exact hc
  ·have:q=0:=by omega
   subst this;omega
 have hlt':X<(q-1+1)*Y:=by rw [Int.sub_add_cancel];exact hlq
 have hqr':(q-1)*v1+(r+v1)=T:=by grind
 refine ⟨hq1,fun hr=>?_,fun hr=>⟨⟨rfl,by omega,by omega,by omega,by omega,hqr',hlt'⟩,by show (q-1).toNat<q.toNat;omega⟩⟩
 have key2:(q-1)*(v1*4294967296+v2)=(T-(r+v1))*4294967296+(q-1)*v2:=by rw [<- hqr'];grind
 have hb:(q-1)*v2<=4294967296*v2:=B8h (by omega) v2r.1
 exact hJ (q-1) (by omega) (es.exact (by omega)) hlt'
theorem Nl{hi lo:Int}{y:Nat}(hhi:0<=hi/\hi<y)(hlo:0<=lo/\lo<18446744073709551616)(hy:y<18446744073709551616)
 (hK:K (.tuple #[U ((hi*18446744073709551616+lo)/y),U ((hi*18446744073709551616+lo)%y)]) h):FCall prog Cy #[U hi,U lo,U y] h K:=by
 refine A85 _ _ _ ?_
 unfold B1r
 refine D9 (fun e=>absurd e (by omega)) (fun _=>?_)
 refine B7 (fun e=>absurd e (by omega)) (fun _=>?_)
 refine D9 (fun e=>?_) (fun hne=>?_)
 ·refine B7 (fun e=>absurd e (by omega)) (fun _=>?_)
  refine B7 (fun e=>absurd e (by omega)) (fun _=>?_)
  subst e
  rw [Int.zero_mul,B9q] at hK
  rw [B91 hlo.1,B9i hlo.1,C4 (B9c hlo.1 (by omega)) (C01 (C09 _ hlo.1) hlo.2)]
  exact hK
 refine N9 hy ⟨_,rfl,?_⟩
 have hy0:y≠0:=by omega
 obtain ⟨hb1,hb2⟩:=Eu hy0
 have hb64:O7 y<=64:=Hj (k:=64) (by omega)
 have hb0:1<=O7 y:=by unfold O7;rw [if_neg hy0];omega
 obtain ⟨s,hs⟩:∃ s,s=64-O7 y:=⟨_,rfl⟩
 rw [<- hs]
 have hs64:s<64:=by omega
 have hps:0<(2:Int)^s:=B9a (by decide)
 have hsp:=T7 (s:=s) (by omega)
 have hpt:0<(2:Int)^(64-s):=B9a (by decide)
 have hblen:O7 y=64-s:=by omega
 have hyl:(y:Int)<2^(64-s):=by
  rw [<- hblen]
  have:((y:Nat):Int)<((2^O7 y:Nat):Int):=by omega
  simpa using this
 have hyg:(2:Int)^(63-s)<=y:=by
  have:((2^(O7 y-1):Nat):Int)<=((y:Nat):Int):=by omega
  rw [show O7 y-1=63-s by omega] at this
  simpa using this
 have hp63:(2:Int)^s*2^(63-s)=9223372036854775808:=by
  rw [<- B93,show s+(63-s)=63 by omega];decide
 have es0:C3 (s:Int)=(s:Int):=C4 (by omega) (by omega)
 have es1:C3 ((64:Int)-s)=((64-s:Nat):Int):=by rw [C4 (by omega) (by omega)];omega
 have hYlt:(y:Int)*2^s<18446744073709551616:=by
  rw [<- hsp,B8w];exact B9j hyl hps
 have hYge:9223372036854775808<=(y:Int)*2^s:=by
  rw [<- hp63,B8w (y:Int)];exact B8k hyg (by omega)
 have eY:C3 ((y:Int)*2^(min s 64))=(y:Int)*2^s:=by rw [B8m (by omega),C4 (by omega) hYlt]
 have hhs:hi*2^s+2^s<=(y:Int)*2^s:=by
  have:=B8h (show hi+1<=(y:Int) by omega) (B8q hps)
  rw [Int.add_mul] at this;omega
 have hhs0:0<=hi*2^s:=B8s hhi.1 (by omega)
 have hlq:0<=lo/2^(64-s)/\lo/2^(64-s)<2^s:=by
  refine ⟨B9c hlo.1 (by omega),B98 hpt ?_⟩
  rw [hsp];exact hlo.2
 have eT:bor .u64 (C3 (hi*2^(min s 64))) (Int.fdiv lo (2^(min (64-s) 64)))=hi*2^s+lo/2^(64-s):=by
  rw [B8m (show s<=64 by omega),C4 hhs0 (by omega),A8w (by omega),Xx hhi.1 hlq (by omega)]
 have eL:C3 (lo*2^(min s 64))=lo*2^s%18446744073709551616:=by rw [B8m (by omega),F1]
 have hL0:0<=lo*2^s%18446744073709551616/\lo*2^s%18446744073709551616<18446744073709551616:=⟨B8y _ (by decide),B8t _ (by decide)⟩
 have hN:(hi*18446744073709551616+lo)*2^s=(hi*2^s+lo/2^(64-s))*18446744073709551616+lo*2^s%18446744073709551616:=by
  have d1:lo*2^s/18446744073709551616=lo/2^(64-s):=by
   rw [<- hsp,B8w lo,Int.mul_ediv_mul_of_pos _ _ hps]
  have d2:=B8n (lo*2^s) 18446744073709551616
  rw [d1] at d2
  grind
 generalize hTT:hi*2^s+lo/2^(64-s)=T at *
 generalize hLL:lo*2^s%18446744073709551616=L at *
 generalize hYY:(y:Int)*2^s=Y at *
 have hT0:0<=T/\T<Y:=by omega
 unfold Zb Zd Za Zc
 simp only [es0,es1,B8g,eY,eT,eL,B49]
 rw [Bv (by omega),Bv (by omega)]
 have e1:Est 4294967296 1 T (L/4294967296) 0 (Y/4294967296) (Y%4294967296) 0 (T*4294967296+L/4294967296) Y:=
  ⟨by decide,by decide,by omega,by omega,by omega,by omega,by omega,by omega,hT0.1,by omega,by omega⟩
 refine B7 (fun e=>absurd e (by omega)) (fun _=>?_)
 refine B7 (fun e=>absurd e (by omega)) (fun _=>?_)
 refine B7 (fun e=>absurd e (by omega)) (fun _=>?_)
 refine B7 (fun e=>absurd e (by omega)) (fun _=>?_)
 refine B7 (fun e=>absurd e (by omega)) (fun _=>?_)
 have bm:∀ {q w:Int},0<=q->q<=4294967296->0<=w->w<4294967296->0<=q*w/\q*w<18446744073709551616:=by
  intro q w a b c d
  refine ⟨B8s a c,?_⟩
  have:=B9r b (show w<=4294967295 by omega) c (by decide)
  omega
 refine ⟨fun l hp=>∃ q,l=[U q]/\hp=h/\0<=q/\q*Y<=T*4294967296+L/4294967296/\T*4294967296+L/4294967296<(q+1)*Y,?_,?_⟩
 ·obtain ⟨Inv,mu,i0,st⟩:=A6g (hp:=h) (J:=fun q hp=>∃ q',[U q]=[U q']/\hp=h/\0<=q'/\q'*Y<=T*4294967296+L/4294967296/\T*4294967296+L/4294967296<(q'+1)*Y) e1 (by omega) (fun q a b c=>⟨q,rfl,rfl,a,b,c⟩)
  refine ⟨fun l hp=>∃ q r,l=[U q,U r]/\Inv q r hp,fun l hp=>mu (iAt l 0) (iAt l 1) hp,⟨T/(Y/4294967296),T%(Y/4294967296),?_,i0⟩,?_⟩
  ·have dm:=B8n T (Y/4294967296)
   have d0:=B9c hT0.1 (show 0<=Y/4294967296 by omega)
   have d1:T/(Y/4294967296)<=T:=C09 _ hT0.1
   have d2:=B8y T (show Y/4294967296≠0 by omega)
   rw [B91 hT0.1,C4 (n:=T/(Y/4294967296)) d0 (by omega),B8w (T/(Y/4294967296))]
   have d3:=B8s (show 0<=Y/4294967296 by omega) d0
   rw [C4 (n:=Y/4294967296*(T/(Y/4294967296))) d3 (by omega),C4 (by omega) (by omega)]
   have:T-Y/4294967296*(T/(Y/4294967296))=T%(Y/4294967296):=by omega
   rw [this]
  rintro q r hp1 ⟨q',r',hl,hI⟩
  obtain ⟨rfl,rfl⟩:q=q'/\r=r':=by simpa using hl
  obtain ⟨_,q0,q1,r0,r1,rfl,ok,bad⟩:=st q r hp1 hI
  have br:=bm (q:=4294967296) (w:=r) (by omega) (by omega) r0 r1
  refine ⟨fun l hp=>l=[]/\hp=hp1/\(q>=4294967296\/q*(Y%4294967296)>4294967296*r+L/4294967296),B7 (fun h1=>⟨rfl,rfl,.inl h1⟩) (fun h1=>?_),?_⟩
  ·have bq:=bm (q:=q) (w:=Y%4294967296) q0 (by omega) (by omega) (by omega)
   rw [C4 bq.1 bq.2,C4 br.1 br.2,C4 (n:=4294967296*r+L/4294967296) (by omega) (by omega)]
   exact B7 (fun h2=>⟨rfl,rfl,.inr h2⟩) (fun h2=>ok (by omega) h2)
  ·rintro hp2 ⟨_,rfl,hbad⟩
   obtain ⟨g1,g2,g3⟩:=bad hbad
   rw [C4 (n:=r+Y/4294967296) (by omega) (by omega),C4 (n:=q-1) (by omega) (by omega)]
   exact B7 (fun h3=>g2 h3) (fun h3=>⟨⟨_,_,rfl,(g3 (by omega)).1⟩,(g3 (by omega)).2⟩)
 rintro q1 hp3 ⟨q1',hl1,rfl,q10,q1a,q1b⟩
 obtain rfl:q1=q1':=by simpa using hl1
 have hq1B:q1<4294967296:=by
  by_cases hc:q1<4294967296
  ·exact hc
  ·have:=B8h (show 4294967296<=q1 by omega) (show 0<=Y by omega);omega
 have hR1:(q1+1)*Y=q1*Y+Y:=by grind
 have hqY0:0<=q1*Y:=B8s q10 (by omega)
 have eR1:C3 (C3 (C3 (T*4294967296)+L/4294967296)-C3 (q1*Y))=T*4294967296+L/4294967296-q1*Y:=by
  simp only [F1];omega
 simp only [eR1]
 generalize hRR:T*4294967296+L/4294967296-q1*Y=R at *
 have hR0:0<=R/\R<Y:=by omega
 refine B7 (fun e=>absurd e (by omega)) (fun _=>?_)
 have e2:Est 4294967296 1 R (L%4294967296) 0 (Y/4294967296) (Y%4294967296) 0 (R*4294967296+L%4294967296) Y:=
  ⟨by decide,by decide,by omega,by omega,by omega,by omega,by omega,by omega,hR0.1,by omega,by omega⟩
 refine ⟨fun l hp=>∃ q,l=[U q]/\hp=hp3/\0<=q/\q*Y<=R*4294967296+L%4294967296/\R*4294967296+L%4294967296<(q+1)*Y,?_,?_⟩
 ·obtain ⟨Inv,mu,i0,st⟩:=A6g (hp:=hp3) (J:=fun q hp=>∃ q',[U q]=[U q']/\hp=hp3/\0<=q'/\q'*Y<=R*4294967296+L%4294967296/\R*4294967296+L%4294967296<(q'+1)*Y) e2 (by omega) (fun q a b c=>⟨q,rfl,rfl,a,b,c⟩)
  refine ⟨fun l hp=>∃ q r,l=[U r,U q]/\Inv q r hp,fun l hp=>mu (iAt l 1) (iAt l 0) hp,⟨R/(Y/4294967296),R%(Y/4294967296),?_,i0⟩,?_⟩
  ·have dm:=B8n R (Y/4294967296)
   have d0:=B9c hR0.1 (show 0<=Y/4294967296 by omega)
   have d1:R/(Y/4294967296)<=R:=C09 _ hR0.1
   have d2:=B8y R (show Y/4294967296≠0 by omega)
   rw [B91 hR0.1,C4 (n:=R/(Y/4294967296)) d0 (by omega),B8w (R/(Y/4294967296))]
   have d3:=B8s (show 0<=Y/4294967296 by omega) d0
   rw [C4 (n:=Y/4294967296*(R/(Y/4294967296))) d3 (by omega),C4 (by omega) (by omega)]
   have:R-Y/4294967296*(R/(Y/4294967296))=R%(Y/4294967296):=by omega
   rw [this]
  rintro r q hp1 ⟨q',r',hl,hI⟩
  obtain ⟨rfl,rfl⟩:r=r'/\q=q':=by simpa using hl
  obtain ⟨_,q0,q1,r0,r1,rfl,ok,bad⟩:=st q r hp1 hI
  have br:=bm (q:=4294967296) (w:=r) (by omega) (by omega) r0 r1
  refine ⟨fun l hp=>l=[]/\hp=hp1/\(q>=4294967296\/q*(Y%4294967296)>4294967296*r+L%4294967296),B7 (fun h1=>⟨rfl,rfl,.inl h1⟩) (fun h1=>?_),?_⟩
  ·have bq:=bm (q:=q) (w:=Y%4294967296) q0 (by omega) (by omega) (by omega)
   rw [C4 bq.1 bq.2,C4 br.1 br.2,C4 (n:=4294967296*r+L%4294967296) (by omega) (by omega)]
   exact B7 (fun h2=>⟨rfl,rfl,.inr h2⟩) (fun h2=>ok (by omega) h2)
  ·rintro hp2 ⟨_,rfl,hbad⟩
   obtain ⟨g1,g2,g3⟩:=bad hbad
   rw [C4 (n:=r+Y/4294967296) (by omega) (by omega),C4 (n:=q-1) (by omega) (by omega)]
   exact B7 (fun h3=>g2 h3) (fun h3=>⟨⟨_,_,rfl,(g3 (by omega)).1⟩,(g3 (by omega)).2⟩)
 rintro q0 hp6 ⟨q0',hl0,rfl,q00,q0a,q0b⟩
 obtain rfl:q0=q0':=by simpa using hl0
 refine B7 (fun e=>absurd e (by omega)) (fun _=>?_)
 have hq0B:q0<4294967296:=by
  by_cases hc:q0<4294967296
  ·exact hc
  ·have:=B8h (show 4294967296<=q0 by omega) (show 0<=Y by omega);omega
 have hR2:(q0+1)*Y=q0*Y+Y:=by grind
 have hqY1:0<=q0*Y:=B8s q00 (by omega)
 have eR0:C3 (C3 (C3 (R*4294967296)+L%4294967296)-C3 (q0*Y))=R*4294967296+L%4294967296-q0*Y:=by
  simp only [F1];omega
 rw [eR0,C4 (n:=q1*4294967296) (by omega) (by omega),C4 (n:=q1*4294967296+q0) (by omega) (by omega),A8w (by omega)]
 have hfin:(hi*18446744073709551616+lo)*2^s=(q1*4294967296+q0)*(y*2^s)+(R*4294967296+L%4294967296-q0*Y):=by
  rw [hN,hYY]
  have:T*18446744073709551616+L=(T*4294967296+L/4294967296)*4294967296+L%4294967296:=by omega
  rw [this]
  have:T*4294967296+L/4294967296=R+q1*Y:=by omega
  rw [this];grind
 have hfin2:R*4294967296+L%4294967296-q0*Y=(hi*18446744073709551616+lo-(q1*4294967296+q0)*y)*2^s:=by grind
 rw [hfin2,Int.mul_ediv_cancel _ (show (2:Int)^s≠0 by omega)]
 have hr0:0<=hi*18446744073709551616+lo-(q1*4294967296+q0)*y:=by
  by_cases hc:0<=hi*18446744073709551616+lo-(q1*4294967296+q0)*y
  ·exact hc
  ·have:=B8h (show hi*18446744073709551616+lo-(q1*4294967296+q0)*y <= -1 by omega) (B8q hps);omega
 have hr1:hi*18446744073709551616+lo-(q1*4294967296+q0)*y<y:=by
  by_cases hc:hi*18446744073709551616+lo-(q1*4294967296+q0)*y<y
  ·exact hc
  ·have:=B8h (show (y:Int)<=hi*18446744073709551616+lo-(q1*4294967296+q0)*y by omega) (B8q hps);omega
 have hdiv:(hi*18446744073709551616+lo)/y=q1*4294967296+q0:=by
  have:hi*18446744073709551616+lo=(hi*18446744073709551616+lo-(q1*4294967296+q0)*y)+(q1*4294967296+q0)*y:=by omega
  rw [this,B9u _ _ (by omega),B99 hr0 hr1,B9q]
 have hmod:(hi*18446744073709551616+lo)%y=hi*18446744073709551616+lo-(q1*4294967296+q0)*y:=by
  rw [Int.emod_def,hdiv,B8w (y:Int)]
 rw [hdiv,hmod] at hK
 exact hK
end
theorem K5{xs:List Int}(d:Dig b64 xs)(i:Nat):0<=xs.getD i 0/\xs.getD i 0<18446744073709551616:=d.getD (by decide) i
theorem Bo(c:Int):0<=c%18446744073709551616/\c%18446744073709551616<b64:=⟨B8y _ (by decide),B8t _ (by decide)⟩
section
variable {h g:Heap} {K:VP} {A B:Option Addr} {ac bc:Nat}
theorem Bf{xs:List Int}(s:SlI .u64 h A xs)(hc:xs.length<=ac)(hl:xs.length<=10000000000)(hK:∀ m,m<=xs.length->Norm (xs.take m)->val b64 (xs.take m)=val b64 xs->K (.slice A m ac) h):FCall prog F7 #[.slice A xs.length ac] h K:=by
 refine A9w _ _ _ ?_
 unfold B5f
 refine ⟨fun l h'=>∃ m:Nat,l=[I m]/\m<=xs.length/\h'=h/\val b64 (xs.take m)=val b64 xs,fun l _=>(iAt l 0).toNat,⟨xs.length,rfl,B92 _,rfl,by rw [B8x]⟩,?_⟩
 rintro n1 hp ⟨m,hl1,hm,rfl,hv⟩
 obtain rfl:=sI1 hl1
 refine B7 (fun h1=>?_) (fun h1=>?_)
 ·obtain ⟨j,rfl⟩:∃ j,m=j+1:=⟨m-1,by omega⟩
  have e:B5 (((j+1:Nat):Int)-1)=(j:Int):=by rw [B8 (by omega) (by omega)];omega
  rw [e]
  have hv1:=N7 b64 (xs:=xs) (i:=j) (by omega)
  refine s.load rfl (by omega) (by omega) ?_
  rw [B8g]
  refine D9 (fun h2=>?_) (fun h2=>?_)
  ·exact ⟨⟨j,rfl,by omega,rfl,by rw [h2] at hv1;omega⟩,by simp only [iAt,B8l];omega⟩
  ·refine ⟨⟨by omega,by omega⟩,?_⟩
   rw [J6,B8g,B9d,B9d]
   refine hK (j+1) hm ?_ hv
   rw [Hy (by omega)];exact A5d h2
 ·have:m=0:=by omega
  subst this
  refine ⟨⟨by omega,by omega⟩,?_⟩
  rw [J6,B8g,B9d,B9d]
  exact hK 0 (by omega) Norm.nil hv
theorem L9{xs:List Int}(s:SlI .u64 h A xs)(hd:Dig b64 xs)(hc:xs.length<=ac)(hl:xs.length<=10000000000)(hK:∀ m,m<=xs.length->Mw h A m (val b64 xs)->K (.slice A m ac) h):FCall prog F7 #[.slice A xs.length ac] h K:=by
 refine Bf s hc hl ?_
 intro m hm hn hv
 refine hK m hm ⟨xs.take m,by simp;omega,?_,hd.take m,hn,hv⟩
 have:=s.cut (c:=ac) (l:=0) (m:=m) (by omega) hm hc
 simpa [J6] using this
theorem W6{w:Int}(hw:0<=w/\w<18446744073709551616)(hK:∀ A m c h',h.le h'->m<=c->Mw h' A m w->K (.slice A m c) h'):FCall prog S6 #[U w] h K:=by
 refine Yi _ ?_
 unfold Yj
 refine D9 (fun e=>?_) (fun e=>?_)
 ·subst e;exact hK none 0 0 h (B4 h) (B92 _) Mag.zero
 ·refine Ax L0 rfl ?_
  intro b hb
  exact ⟨_,_,_,rfl,hK _ _ _ _ (Heap.le_put _ hb) (B92 _) ⟨[w],rfl,SlI.new h b [w] B9 _,Dig.one hw,by simpa [Norm] using e,Ce _ _⟩⟩
theorem I8{x y:Int}{an bn:Nat}(ma:Mw h A an x)(mb:Mw h B bn y)(hl:an<=10000000000)(hK:K (I (Qn x y)) h):FCall prog G9 #[.slice A an ac,.slice B bn bc] h K:=by
 obtain ⟨xs,rfl,sx,dx,nx,rfl⟩:=ma
 obtain ⟨ys,rfl,sy,dy,ny,rfl⟩:=mb
 refine Mm _ _ _ _ _ _ ?_
 unfold Jk
 refine H9 (fun h1=>?_) (fun h1=>?_)
 ·refine A6n ⟨_,rfl,?_⟩
  have:Qn (xs.length:Int) (ys.length:Int)=Qn (val b64 xs) (val b64 ys):=by
   unfold Qn
   by_cases h2:xs.length<ys.length
   ·have:=Rm (by decide) dx dy ny h2
    rw [if_pos (by omega),if_pos this]
   ·have:=Rm (by decide) dy dx nx (by omega)
    rw [if_neg (by omega),if_pos (by omega),if_neg (by omega),if_pos (by omega)]
  rw [this];exact hK
 ·have hlen:xs.length=ys.length:=by omega
  refine ⟨fun l h'=>∃ k:Nat,l=[I ((k:Int)-1)]/\k<=xs.length/\h'=h/\xs.drop k=ys.drop k,fun l _=>(iAt l 0+1).toNat,⟨xs.length,?_,B92 _,rfl,?_⟩,?_⟩
  ·rw [B8 (by omega) (by omega)]
  ·rw [C06,hlen,C06]
  rintro i hp ⟨k,hl1,hk,rfl,hd⟩
  obtain rfl:i=(k:Int)-1:=by simpa using hl1
  refine B7 (fun h2=>?_) (fun h2=>?_)
  ·obtain ⟨j,rfl⟩:∃ j,k=j+1:=⟨k-1,by omega⟩
   have e:((j+1:Nat):Int)-1=(j:Int):=by omega
   rw [e]
   refine sx.load rfl (by omega) (by omega) ?_
   refine sy.load rfl (by omega) (by omega) ?_
   rw [B8g]
   refine H9 (fun h3=>?_) (fun h3=>?_)
   ·refine sx.load rfl (by omega) (by omega) ?_
    refine sy.load rfl (by omega) (by omega) ?_
    rw [B8g]
    refine A6m ⟨_,rfl,B4 _,?_⟩
    have:Qn (xs.getD j 0) (ys.getD j 0)=Qn (val b64 xs) (val b64 ys):=by
     unfold Qn
     by_cases h4:xs.getD j 0<ys.getD j 0
     ·have:=Rl (by decide) dx dy (i:=j) (by omega) (by omega) hd h4
      rw [if_pos h4,if_pos this]
     ·have:=Rl (by decide) dy dx (i:=j) (by omega) (by omega) hd.symm (by omega)
      rw [if_neg h4,if_pos (by omega),if_neg (by omega),if_pos (by omega)]
    rw [this];exact hK
   ·rw [B8 (by omega) (by omega)]
    refine ⟨⟨j,rfl,by omega,rfl,?_⟩,by simp only [iAt,B8l];omega⟩
    rw [C0f (show j<xs.length by omega),C0f (show j<ys.length by omega),hd]
    congr 1
    simpa [B9p,show j<xs.length by omega,show j<ys.length by omega] using h3
  ·have hk0:k=0:=by omega
   subst hk0
   simp at hd
   subst hd
   have:Qn (val b64 xs) (val b64 xs)=0:=by unfold Qn;rw [if_neg (by omega),if_neg (by omega)]
   rw [this] at hK;exact hK
theorem Bt{xs:List Int}{an:Nat}(s:SlI .u64 h A xs)(hn:an=xs.length)(hl:xs.length<=10000000000)(hK:∀ A' c' h' g',h.le g'->Priv h' g' B9 1 A' xs.length c' (xs.map (B9b .u64))->K (.slice A' xs.length c') h'):FCall prog Ct #[.slice A an ac] h K:=by
 subst hn
 refine A79 _ _ _ ?_
 unfold B16
 refine Br.of (fun e=>?_) (fun e=>?_)
 ·have hA:A=none:=by simpa using e
  have hx:xs=[]:=by
   rcases s with h0|⟨a,ha,_⟩
   ·simpa using h0
   ·rw [hA] at ha;cases ha
  subst hx
  exact hK none 0 h h (B4 h) (by simpa using Priv.nil _ _ _ _)
 ·refine B2g L0 ?_
  intro b hb
  refine ⟨_,_,_,rfl,?_⟩
  have hle:=Heap.le_put (h:=h) (b:=b) (.cells #[] B9) hb
  refine Po L0 (Priv.nil _ _ _ _) (ys:=xs.map (B9b .u64)) (by simp) (SlI.mono hle s) (fun v hv=>?_) (by omega) (by omega) ?_
  ·obtain ⟨a,_,rfl⟩:=List.mem_map.1 hv;rfl
  ·intro A' c' h' g' hg hp
   simp only [Nat.zero_add,B9o] at hp ⊢
   exact ⟨_,_,_,rfl,hK _ _ _ _ (B0 hle hg) hp⟩
variable {b:Nat} {e:TypeId} {pre post:List Value}
theorem Ew{xs ys:List Int}{an bn:Nat}(w:Win .u64 h g b e A pre xs post)(hn:an=xs.length)(sy:SlI .u64 g B ys)(hm:bn=ys.length)(dx:Dig b64 xs)(dy:Dig b64 ys)(hle:ys.length<=xs.length)(hfit:val b64 xs+val b64 ys<b64^xs.length)(hl:xs.length<=10000000000)
 (hK:∀ xs' h',xs'.length=xs.length->Dig b64 xs'->val b64 xs'=val b64 xs+val b64 ys->Win .u64 h' g b e A pre xs' post->K (.tuple #[]) h'):FCall prog P8 #[.slice A an ac,.slice B bn bc] h K:=by
 subst hn hm
 refine A0v _ _ _ _ _ _ ?_
 unfold A25
 refine ⟨fun l hp=>∃ (k:Nat) (c:Int) (zs:List Int),l=[U c,I k]/\k<=ys.length/\zs.length=xs.length/\Dig b64 zs/\(0<=c/\c<=1)/\Win .u64 hp g b e A pre zs post/\zs.drop k=xs.drop k/\val b64 (zs.take k)+c*b64^k=val b64 (xs.take k)+val b64 (ys.take k),fun l _=>ys.length-(iAt l 1).toNat,⟨0,0,xs,rfl,by omega,rfl,dx,by omega,w,rfl,by simp [val]⟩,?_⟩
 rintro c i hp ⟨k,c',zs,hli,hk,hzl,hd,hc,wz,hdr,hv⟩
 obtain ⟨rfl,rfl⟩:c=c'/\i=(k:Int):=by simpa using hli
 refine B7 (fun h1=>?_) (fun h1=>?_)
 ·have gy:=K5 dy k
  have gz:=K5 hd k
  have hzz:=G7 hdr
  have vx:=C7 b64 xs k
  have vy:=C7 b64 ys k
  refine (sy.mono wz.le).load rfl (by omega) (by omega) ?_
  refine wz.sl.load hzl.symm (by omega) (by omega) ?_
  simp only [B8g]
  refine Ao gz gy hc ⟨_,_,rfl,?_⟩
  obtain ⟨a,ha,_⟩:=SlV.at wz.sl (i:=k) (by simp;omega)
  refine ⟨a,ha,by omega,by omega,wz.storeN D8 ha (by omega) ?_⟩
  intro h' w'
  rw [B8 (n:=(k:Int)+1) (by omega) (by omega)]
  refine ⟨⟨k+1,_,_,rfl,by omega,by simpa using hzl,hd.set (Bo _),by omega,w',?_,?_⟩,by simp only [iAt,B8l,B8v];omega⟩
  ·rw [E5 (by omega)];exact E9 hdr
  ·rw [D5 (by omega),G0,B8j,B8m (by omega),B94,Kq,vx,vy,<- hzz]
   grind
 ·have hkk:k=ys.length:=by omega
  subst hkk
  rw [B8x] at hv
  refine ⟨fun l hp=>∃ (k:Nat) (c:Int) (zs:List Int),l=[U c,I k]/\ys.length<=k/\k<=xs.length/\zs.length=xs.length/\Dig b64 zs/\(0<=c/\c<=1)/\Win .u64 hp g b e A pre zs post/\zs.drop k=xs.drop k/\val b64 (zs.take k)+c*b64^k=val b64 (xs.take k)+val b64 ys,fun l _=>xs.length-(iAt l 1).toNat,⟨ys.length,c,zs,rfl,by omega,by omega,hzl,hd,hc,wz,hdr,hv⟩,?_⟩
  clear hv hdr wz hd hzl hc hk h1
  rintro c i hp ⟨k,c',zs,hli,hk0,hk,hzl,hd,hc,wz,hdr,hv⟩
  obtain ⟨rfl,rfl⟩:c=c'/\i=(k:Int):=by simpa using hli
  have hsplit:=G2 b64 zs (i:=k) (by omega)
  have hsplit2:=G2 b64 xs (i:=k) (by omega)
  refine H9 (fun h0=>B7 (fun h1=>?_) (fun h1=>?_)) (fun h0=>?_)
  ·have gz:=K5 hd k
   have hzz:=G7 hdr
   have vx:=C7 b64 xs k
   refine wz.sl.load hzl.symm (by omega) (by omega) ?_
   simp only [B8g]
   refine Ao gz (by omega) hc ⟨_,_,rfl,?_⟩
   obtain ⟨a,ha,_⟩:=SlV.at wz.sl (i:=k) (by simp;omega)
   refine ⟨a,ha,by omega,by omega,wz.storeN D8 ha (by omega) ?_⟩
   intro h' w'
   rw [B8 (n:=(k:Int)+1) (by omega) (by omega)]
   refine ⟨⟨k+1,_,_,rfl,by omega,by omega,by simpa using hzl,hd.set (Bo _),by omega,w',?_,?_⟩,by simp only [iAt,B8l,B8v];omega⟩
   ·rw [E5 (by omega)];exact E9 hdr
   ·rw [D5 (by omega),G0,B8j,B8m (by omega),B94,Kq,vx,<- hzz]
    grind
  ·exfalso
   have hkk:k=xs.length:=by omega
   subst hkk
   have hc1:c=1:=by omega
   subst hc1
   rw [B8x] at hv
   have:=C5 (by decide) (hd.take xs.length)
   omega
  ·have hc0:c=0:=by omega
   subst hc0
   refine hK zs hp hzl hd ?_ wz
   rw [hsplit,hsplit2,hdr];omega
theorem Bj{xs ys:List Int}{an bn:Nat}(w:Win .u64 h g b e A pre xs post)(hn:an=xs.length)(sy:SlI .u64 g B ys)(hm:bn=ys.length)(dx:Dig b64 xs)(dy:Dig b64 ys)(hle:ys.length<=xs.length)(hfit:val b64 ys<=val b64 xs)(hl:xs.length<=10000000000)
 (hK:∀ xs' h',xs'.length=xs.length->Dig b64 xs'->val b64 xs'=val b64 xs-val b64 ys->Win .u64 h' g b e A pre xs' post->K (.tuple #[]) h'):FCall prog Q5 #[.slice A an ac,.slice B bn bc] h K:=by
 subst hn hm
 refine Me _ _ _ _ _ _ ?_
 unfold Jd
 have key:∀ {z y c:Int},(0<=z/\z<18446744073709551616)->(0<=y/\y<18446744073709551616)->(0<=c/\c<=1)->(z-y-c)%18446744073709551616=z-y-c+18446744073709551616*(if z-y-c<0 then 1 else 0):=by
  intro z y c hz hy hc;split<;>omega
 refine ⟨fun l hp=>∃ (k:Nat) (c:Int) (zs:List Int),l=[U c,I k]/\k<=ys.length/\zs.length=xs.length/\Dig b64 zs/\(0<=c/\c<=1)/\Win .u64 hp g b e A pre zs post/\zs.drop k=xs.drop k/\val b64 (zs.take k)=val b64 (xs.take k)-val b64 (ys.take k)+c*b64^k,fun l _=>ys.length-(iAt l 1).toNat,⟨0,0,xs,rfl,by omega,rfl,dx,by omega,w,rfl,by simp [val]⟩,?_⟩
 rintro c i hp ⟨k,c',zs,hli,hk,hzl,hd,hc,wz,hdr,hv⟩
 obtain ⟨rfl,rfl⟩:c=c'/\i=(k:Int):=by simpa using hli
 refine B7 (fun h1=>?_) (fun h1=>?_)
 ·have gy:=K5 dy k
  have gz:=K5 hd k
  have hzz:=G7 hdr
  have vx:=C7 b64 xs k
  have vy:=C7 b64 ys k
  refine (sy.mono wz.le).load rfl (by omega) (by omega) ?_
  refine wz.sl.load hzl.symm (by omega) (by omega) ?_
  simp only [B8g]
  refine Cj gz gy hc ⟨_,_,rfl,?_⟩
  obtain ⟨a,ha,_⟩:=SlV.at wz.sl (i:=k) (by simp;omega)
  refine ⟨a,ha,by omega,by omega,wz.storeN D8 ha (by omega) ?_⟩
  intro h' w'
  rw [B8 (n:=(k:Int)+1) (by omega) (by omega)]
  refine ⟨⟨k+1,_,_,rfl,by omega,by simpa using hzl,hd.set (Bo _),by split<;>omega,w',?_,?_⟩,by simp only [iAt,B8l,B8v];omega⟩
  ·rw [E5 (by omega)];exact E9 hdr
  ·rw [D5 (by omega),G0,B8j,B8m (by omega),B94,vx,vy,<- hzz,hv,key gz gy hc]
   grind
 ·have hkk:k=ys.length:=by omega
  subst hkk
  rw [B8x] at hv
  refine ⟨fun l hp=>∃ (k:Nat) (c:Int) (zs:List Int),l=[U c,I k]/\ys.length<=k/\k<=xs.length/\zs.length=xs.length/\Dig b64 zs/\(0<=c/\c<=1)/\Win .u64 hp g b e A pre zs post/\zs.drop k=xs.drop k/\val b64 (zs.take k)=val b64 (xs.take k)-val b64 ys+c*b64^k,fun l _=>xs.length-(iAt l 1).toNat,⟨ys.length,c,zs,rfl,by omega,by omega,hzl,hd,hc,wz,hdr,hv⟩,?_⟩
  clear hv hdr wz hd hzl hc hk h1
  rintro c i hp ⟨k,c',zs,hli,hk0,hk,hzl,hd,hc,wz,hdr,hv⟩
  obtain ⟨rfl,rfl⟩:c=c'/\i=(k:Int):=by simpa using hli
  have hsplit:=G2 b64 zs (i:=k) (by omega)
  have hsplit2:=G2 b64 xs (i:=k) (by omega)
  refine H9 (fun h0=>B7 (fun h1=>?_) (fun h1=>?_)) (fun h0=>?_)
  ·have gz:=K5 hd k
   have hzz:=G7 hdr
   have vx:=C7 b64 xs k
   refine wz.sl.load hzl.symm (by omega) (by omega) ?_
   simp only [B8g]
   refine Cj gz (by omega) hc ⟨_,_,rfl,?_⟩
   obtain ⟨a,ha,_⟩:=SlV.at wz.sl (i:=k) (by simp;omega)
   refine ⟨a,ha,by omega,by omega,wz.storeN D8 ha (by omega) ?_⟩
   intro h' w'
   rw [B8 (n:=(k:Int)+1) (by omega) (by omega)]
   refine ⟨⟨k+1,_,_,rfl,by omega,by omega,by simpa using hzl,hd.set (Bo _),by split<;>omega,w',?_,?_⟩,by simp only [iAt,B8l,B8v];omega⟩
   ·rw [E5 (by omega)];exact E9 hdr
   ·rw [D5 (by omega),G0,B8j,B8m (by omega),B94,vx,<- hzz,hv,key gz (y:=0) (by omega) hc]
    grind
  ·exfalso
   have hkk:k=xs.length:=by omega
   subst hkk
   have hc1:c=1:=by omega
   subst hc1
   rw [B8x] at hv
   have:=M0 (by decide) (hd.take xs.length)
   rw [B8j,B8m (by omega)] at this
   omega
  ·have hc0:c=0:=by omega
   subst hc0
   refine hK zs hp hzl hd ?_ wz
   rw [hsplit,hsplit2,hdr];omega
theorem Ve{x y:Int}{an bn:Nat}(ma:Mw h A an x)(mb:Mw h B bn y)(hab:bn<=an)(hl:an<=4000000000)(hb0:bn≠0)(hK:∀ A' m c' h',h.le h'->m<=c'->Mw h' A' m (x+y)->K (.slice A' m c') h'):
 wpH prog (Instr.makeSlice Q1 (I (B5 ((an:Int)+1))) (I (B5 ((an:Int)+1)))) (fun v hp1=>∃ (t20A:Option Addr) (t20n:Nat) (t20c:Nat),v= .slice t20A t20n t20c/\∀ ty,wpH prog (B9t #[Q1,Q1] ty #[.slice t20A t20n t20c,.slice A an ac]) (fun v1 hp2=>∃ (t23:Int),v1=I t23/\FCall prog P8 #[.slice t20A t20n t20c,.slice B bn bc] hp2 (fun r hp3=>r= .tuple #[]/\FCall prog F7 #[.slice t20A t20n t20c] hp3 (fun r1 hp4=>∃ (t28A:Option Addr) (t28n:Nat) (t28c:Nat),r1= .slice t28A t28n t28c/\K (.slice t28A t28n t28c) hp4))) hp1) h:=by
 obtain ⟨xs,rfl,sx,dx,nx,rfl⟩:=ma
 obtain ⟨ys,rfl,sy,dy,ny,rfl⟩:=mb
 have e1:B5 ((xs.length:Int)+1)=((xs.length+1:Nat):Int):=by rw [B8 (by omega) (by omega)];omega
 rw [e1]
 refine O3 L0 (by omega) (by omega) (by omega) ?_
 intro b hb
 rw [B8g]
 refine ⟨_,_,_,rfl,fun ty=>?_⟩
 have w0:=Win.blk .u64 B9 hb (B8i (xs.length+1) 0)
 refine Da L0 w0 (by simp) (SlI.mono w0.le sx) rfl (by simp) ?_
 intro h1 w1
 refine ⟨_,rfl,?_⟩
 have hdrop:(B8i (xs.length+1) (0:Int)).drop xs.length=[0]:=by rw [B90];simp [B9e]
 rw [hdrop] at w1
 have hv1:val b64 (xs++[0])=val b64 xs:=by rw [G0];omega
 have hlx:=M0 (by decide) dx
 have hly:=M0 (by decide) dy
 have hpw:=D0 (B:=b64) (by decide) hab
 have hps:b64^(xs.length+1)=b64^xs.length*18446744073709551616:=B94 _ _
 have hpp:=D4 (B:=b64) (by decide) xs.length
 refine Ew w1 (by simp) sy rfl (dx.append (Dig.one (by decide))) dy (by simp;omega) ?_ (by simp;omega) ?_
 ·rw [hv1,B8r,List.length_singleton,hps];omega
 intro zs h2 hzl hzd hzv w2
 refine ⟨rfl,?_⟩
 have hzl':zs.length=xs.length+1:=by rw [hzl];simp
 rw [<- hzl']
 refine L9 w2.sl hzd (by omega) (by omega) ?_
 intro m hm hM
 rw [hzv,hv1] at hM
 exact ⟨_,_,_,rfl,hK _ _ _ _ w2.le hm hM⟩
theorem R2{x y:Int}{an bn:Nat}(ma:Mw h A an x)(mb:Mw h B bn y)(ha:an<=ac)(hb:bn<=bc)(hl:an<=4000000000)(hl2:bn<=4000000000)(hK:∀ A' m c' h',h.le h'->m<=c'->Mw h' A' m (x+y)->K (.slice A' m c') h'):FCall prog N3 #[.slice A an ac,.slice B bn bc] h K:=by
 refine Ym _ _ _ _ _ _ ?_
 unfold Yn
 refine ⟨fun l h'=>h'=h/\∃ (A1 B1:Option Addr) (n1 n2 c1 c2:Nat) (x1 y1:Int),l=[.slice A1 n1 c1,.slice B1 n2 c2]/\Mw h A1 n1 x1/\Mw h B1 n2 y1/\n2<=n1/\n1<=4000000000/\n1<=c1/\x1+y1=x+y,B7 (fun h1=>?_) (fun h1=>?_),?_⟩
 ·exact ⟨rfl,_,_,_,_,_,_,y,x,rfl,mb,ma,by omega,hl2,hb,C00 _ _⟩
 ·exact ⟨rfl,_,_,_,_,_,_,x,y,rfl,ma,mb,by omega,hl,ha,rfl⟩
 ·rintro A1 n1 c1 B1 n2 c2 hp ⟨rfl,A1',B1',n1',n2',c1',c2',x1,y1,hli,m1,m2,hn,hn1,hc1,hxy⟩
  obtain ⟨⟨rfl,rfl,rfl⟩,rfl,rfl,rfl⟩:(A1=A1'/\n1=n1'/\c1=c1')/\B1=B1'/\n2=n2'/\c2=c2':=by simpa using hli
  rw [<- hxy] at hK
  refine D9 (fun h0=>?_) (fun h0=>?_)
  ·have:=(m2.len_zero (by decide)).2 (by omega)
   subst this
   rw [C05] at hK
   exact hK _ _ _ _ (B4 _) hc1 m1
  ·refine Fk _ (Ve (ac:=c1) (bc:=c2) m1 m2 hn hn1 (by omega) hK) ?_
   rintro v h' ⟨A2,n2',c2',e2,hx⟩
   exact ⟨A2,n2',c2',e2,hx _⟩
theorem J2{x y:Int}{an bn:Nat}(ma:Mw h A an x)(mb:Mw h B bn y)(ha:an<=ac)(hl:an<=4000000000)(hxy:y<=x)(hK:∀ A' m c' h',h.le h'->m<=c'->Mw h' A' m (x-y)->K (.slice A' m c') h'):FCall prog H2 #[.slice A an ac,.slice B bn bc] h K:=by
 have hbn:bn<=an:=mb.len_le (by decide) (C01 hxy (ma.lt (by decide)))
 refine Kr _ _ _ _ _ _ ?_
 unfold Gh
 refine D9 (fun h0=>?_) (fun h0=>?_)
 ·have:=(mb.len_zero (by decide)).2 (by omega)
  subst this
  rw [Int.sub_zero] at hK
  exact hK _ _ _ _ (B4 _) ha ma
 ·obtain ⟨xs,rfl,sx,dx,nx,rfl⟩:=ma
  obtain ⟨ys,rfl,sy,dy,ny,rfl⟩:=mb
  refine Bt sx rfl (by omega) ?_
  intro A1 c1 h1 g1 l1 p1
  refine ⟨_,_,_,rfl,?_⟩
  obtain ⟨b,post,w1⟩:=p1.win (by rintro rfl;rw [List.length_nil] at hbn;omega)
  refine Bj w1 rfl (sy.mono l1) rfl dx dy hbn hxy (by omega) ?_
  intro zs h2 hzl hzd hzv w2
  refine ⟨rfl,?_⟩
  rw [<- hzl]
  refine L9 w2.sl hzd (by have:=p1.2.1;omega) (by omega) ?_
  intro m hm hM
  rw [hzv] at hM
  exact ⟨_,_,_,rfl,hK _ _ _ _ (B0 l1 w2.le) (by have:=p1.2.1;omega) hM⟩
theorem Ev{zs xs:List Int}{an bn:Nat}{wd:Int}(w:Win .u64 h g b e A pre zs post)(hn:an=zs.length)(sx:SlI .u64 g B xs)(hm:bn=xs.length)(dz:Dig b64 zs)(dx:Dig b64 xs)(hle:zs.length=xs.length)(hw:0<=wd/\wd<18446744073709551616)(hl:xs.length<=10000000000)
 (hK:∀ zs' c h',zs'.length=zs.length->Dig b64 zs'->(0<=c/\c<18446744073709551616)->val b64 zs'+c*b64^zs.length=val b64 zs+val b64 xs*wd->Win .u64 h' g b e A pre zs' post->K (U c) h'):FCall prog X3 #[.slice A an ac,.slice B bn bc,U wd] h K:=by
 subst hn hm
 refine Ra _ _ _ _ _ _ _ ?_
 unfold Py
 refine ⟨fun l hp=>∃ (k:Nat) (c:Int) (us:List Int),l=[U c,I k]/\k<=xs.length/\us.length=zs.length/\Dig b64 us/\(0<=c/\c<18446744073709551616)/\Win .u64 hp g b e A pre us post/\us.drop k=zs.drop k/\val b64 (us.take k)+c*b64^k=val b64 (zs.take k)+val b64 (xs.take k)*wd,fun l _=>xs.length-(iAt l 1).toNat,⟨0,0,zs,rfl,by omega,rfl,dz,by omega,w,rfl,by simp [val]⟩,?_⟩
 rintro c i hp ⟨k,c',us,hli,hk,hul,hd,hc,wz,hdr,hv⟩
 obtain ⟨rfl,rfl⟩:c=c'/\i=(k:Int):=by simpa using hli
 refine B7 (fun h1=>?_) (fun h1=>?_)
 ·have gx:=K5 dx k
  have gz:=K5 hd k
  have hzz:=G7 hdr
  have vx:=C7 b64 xs k
  have vz:=C7 b64 zs k
  have hm:0<=xs.getD k 0*wd/\xs.getD k 0*wd<=18446744073709551615*18446744073709551615:=⟨B8s gx.1 hw.1,B9r (by omega) (by omega) hw.1 (by decide)⟩
  refine (sx.mono wz.le).load rfl (by omega) (by omega) ?_
  rw [B8g]
  refine Ij gx hw ⟨_,_,rfl,?_⟩
  generalize hmm:xs.getD k 0*wd=mm at *
  refine Ao (by omega) hc (by omega) ⟨_,_,rfl,?_⟩
  refine wz.sl.load hul.symm (by omega) (by omega) ?_
  rw [B8g]
  refine Ao gz (by omega) (by omega) ⟨_,_,rfl,?_⟩
  obtain ⟨a,ha,_⟩:=SlV.at wz.sl (i:=k) (by simp;omega)
  refine ⟨a,ha,by omega,by omega,wz.storeN D8 ha (by omega) ?_⟩
  intro h' w'
  rw [B8 (n:=(k:Int)+1) (by omega) (by omega)]
  rw [C4 (n:=mm/18446744073709551616+(mm%18446744073709551616+c+0)/18446744073709551616) (by omega) (by omega)]
  rw [C4 (by omega) (by omega)]
  refine ⟨⟨k+1,_,_,rfl,by omega,by simpa using hul,hd.set (Bo _),by omega,w',?_,?_⟩,by simp only [iAt,B8l,B8v];omega⟩
  ·rw [E5 (by omega)];exact E9 hdr
  ·rw [D5 (by omega),G0,B8j,B8m (by omega),B94,vx,vz,<- hzz]
   have key:(us.getD k 0+(mm%18446744073709551616+c+0)%18446744073709551616+0)%18446744073709551616+18446744073709551616*(mm/18446744073709551616+(mm%18446744073709551616+c+0)/18446744073709551616+(us.getD k 0+(mm%18446744073709551616+c+0)%18446744073709551616+0)/18446744073709551616)=us.getD k 0+mm+c:=by omega
   generalize (us.getD k 0+(mm%18446744073709551616+c+0)%18446744073709551616+0)%18446744073709551616=dg at *
   generalize mm/18446744073709551616+(mm%18446744073709551616+c+0)/18446744073709551616+(us.getD k 0+(mm%18446744073709551616+c+0)%18446744073709551616+0)/18446744073709551616=cn at *
   rw [<- hmm] at key
   grind
 ·have hkk:k=xs.length:=by omega
  subst hkk
  rw [B8x,<- hle,B8x,<- hul,B8x] at hv
  exact hK us c hp hul hd hc (by rw [<- hul];exact hv) wz
theorem Gd{zs xs:List Int}{an bn:Nat}{wd:Int}(w:Win .u64 h g b e A pre zs post)(hn:an=zs.length)(sx:SlI .u64 g B xs)(hm:bn=xs.length)(dz:Dig b64 zs)(dx:Dig b64 xs)(hle:zs.length=xs.length)(hw:0<=wd/\wd<18446744073709551616)(hl:xs.length<=10000000000)
 (hK:∀ zs' c h',zs'.length=zs.length->Dig b64 zs'->(0<=c/\c<18446744073709551616)->val b64 zs'=val b64 zs-val b64 xs*wd+c*b64^zs.length->Win .u64 h' g b e A pre zs' post->K (U c) h'):FCall prog Q4 #[.slice A an ac,.slice B bn bc,U wd] h K:=by
 subst hn hm
 refine Hk _ _ _ _ _ _ _ ?_
 unfold Di
 refine ⟨fun l hp=>∃ (k:Nat) (c:Int) (us:List Int),l=[U c,I k]/\k<=xs.length/\us.length=zs.length/\Dig b64 us/\(0<=c/\c<18446744073709551616)/\Win .u64 hp g b e A pre us post/\us.drop k=zs.drop k/\val b64 (us.take k)=val b64 (zs.take k)-val b64 (xs.take k)*wd+c*b64^k,fun l _=>xs.length-(iAt l 1).toNat,⟨0,0,zs,rfl,by omega,rfl,dz,by omega,w,rfl,by simp [val]⟩,?_⟩
 rintro c i hp ⟨k,c',us,hli,hk,hul,hd,hc,wz,hdr,hv⟩
 obtain ⟨rfl,rfl⟩:c=c'/\i=(k:Int):=by simpa using hli
 refine B7 (fun h1=>?_) (fun h1=>?_)
 ·have gx:=K5 dx k
  have gz:=K5 hd k
  have hzz:=G7 hdr
  have vx:=C7 b64 xs k
  have vz:=C7 b64 zs k
  have hm:0<=xs.getD k 0*wd/\xs.getD k 0*wd<=18446744073709551615*18446744073709551615:=⟨B8s gx.1 hw.1,B9r (by omega) (by omega) hw.1 (by decide)⟩
  refine (sx.mono wz.le).load rfl (by omega) (by omega) ?_
  rw [B8g]
  refine Ij gx hw ⟨_,_,rfl,?_⟩
  generalize hmm:xs.getD k 0*wd=mm at *
  refine Ao (by omega) hc (by omega) ⟨_,_,rfl,?_⟩
  refine wz.sl.load hul.symm (by omega) (by omega) ?_
  rw [B8g]
  refine Cj gz (by omega) (by omega) ⟨_,_,rfl,?_⟩
  obtain ⟨a,ha,_⟩:=SlV.at wz.sl (i:=k) (by simp;omega)
  refine ⟨a,ha,by omega,by omega,wz.storeN D8 ha (by omega) ?_⟩
  intro h' w'
  rw [B8 (n:=(k:Int)+1) (by omega) (by omega)]
  rw [C4 (n:=mm/18446744073709551616+(mm%18446744073709551616+c+0)/18446744073709551616) (by omega) (by omega)]
  rw [C4 (by split<;>omega) (by split<;>omega)]
  refine ⟨⟨k+1,_,_,rfl,by omega,by simpa using hul,hd.set (Bo _),by split<;>omega,w',?_,?_⟩,by simp only [iAt,B8l,B8v];omega⟩
  ·rw [E5 (by omega)];exact E9 hdr
  ·rw [D5 (by omega),G0,B8j,B8m (by omega),B94,vx,vz,<- hzz,hv]
   have key:(us.getD k 0-(mm%18446744073709551616+c+0)%18446744073709551616-0)%18446744073709551616=us.getD k 0-mm-c+18446744073709551616*(mm/18446744073709551616+(mm%18446744073709551616+c+0)/18446744073709551616+(if us.getD k 0-(mm%18446744073709551616+c+0)%18446744073709551616-0<0 then 1 else 0)):=by split<;>omega
   rw [key]
   generalize mm/18446744073709551616+(mm%18446744073709551616+c+0)/18446744073709551616+(if us.getD k 0-(mm%18446744073709551616+c+0)%18446744073709551616-0<0 then 1 else 0)=cn at *
   rw [<- hmm]
   grind
 ·have hkk:k=xs.length:=by omega
  subst hkk
  rw [B8x,<- hle,B8x,<- hul,B8x] at hv
  exact hK us c hp hul hd hc (by rw [<- hul];exact hv) wz
end
theorem Rx{x z:Int}{s:Nat}(hs:s<=64)(_hx:0<=x/\x<18446744073709551616)(hz:0<=z/\z<(2:Int)^s):
 bor .u64 z (x*2^s%18446744073709551616)=z+x*2^s%18446744073709551616/\z+x*2^s%18446744073709551616<18446744073709551616/\x*2^s%18446744073709551616=2^s*(x%2^(64-s)):=by
 have hp:=T7 hs
 have hps:0<(2:Int)^s:=B9a (by decide)
 have hpt:0<(2:Int)^(64-s):=B9a (by decide)
 have hz64:z<18446744073709551616:=by
  have:(2:Int)^s*1<=2^s*2^(64-s):=B8k (by omega) (by omega)
  omega
 have em:x*2^s%18446744073709551616=2^s*(x%2^(64-s)):=by
  rw [<- hp,B8w x,Int.mul_emod_mul_of_pos _ _ hps]
 have hm:=Bo (x*2^s)
 have ha0:0<=x%2^(64-s):=B8y _ (by omega)
 have e1:(x*2^s%18446744073709551616).toNat=2^s*(x%2^(64-s)).toNat:=by
  rw [em,Int.toNat_mul (by omega) ha0]
  rw [Int.toNat_pow_of_nonneg (by decide)];rfl
 have hzn:z.toNat<2^s:=by
  have:((2^s:Nat):Int)=(2:Int)^s:=by simp
  omega
 have hor:bor .u64 z (x*2^s%18446744073709551616)=z+x*2^s%18446744073709551616:=by
  rw [A37 ⟨hz.1,hz64⟩ hm,e1,Nat.or_comm,B0g hzn,<- e1]
  omega
 refine ⟨hor,?_,em⟩
 rw [<- hor,A37 ⟨hz.1,hz64⟩ hm]
 have:z.toNat ||| (x*2^s%18446744073709551616).toNat<2^64:=Nat.or_lt_two_pow (by omega) (by have:=hm.2;show _<_;omega)
 omega
theorem Gq(k:Nat):b64^k=(2:Int)^(64*k):=by
 rw [show b64=(2:Int)^64 by decide,<- Int.pow_mul]
section
variable {h g:Heap} {K:VP} {A B:Option Addr} {ac bc:Nat}
theorem P9{x:Int}{an s:Nat}(ma:Mw h A an x)(ha:an<=ac)(hl:an<=1000000000)(hs:s<=10000000000)(hK:∀ A' m c' h',h.le h'->m<=c'->Mw h' A' m (x*2^s)->K (.slice A' m c') h'):FCall prog P6 #[.slice A an ac,U s] h K:=by
 have h00:=ma.len_zero (by decide)
 refine Vf _ _ _ _ ?_
 unfold Sj
 refine D9 (fun h0=>?_) (fun h0=>D9 (fun h1=>?_) (fun h1=>?_))
 ·have:=h00.2 (by omega)
  subst this
  rw [Int.zero_mul] at hK
  exact hK _ _ _ _ (B4 _) ha ma
 ·have:s=0:=by omega
  subst this
  rw [Int.pow_zero,Int.mul_one] at hK
  exact hK _ _ _ _ (B4 _) ha ma
 ·obtain ⟨xs,rfl,sx,dx,nx,rfl⟩:=ma
  obtain ⟨k0,hk0⟩:∃ k0,k0=s/64:=⟨_,rfl⟩
  obtain ⟨r,hr⟩:∃ r,r=s%64:=⟨_,rfl⟩
  have ed:B5 (C3 (Int.tdiv (s:Int) 64))=(k0:Int):=by
   rw [B91 (by omega),C4 (by omega) (by omega),B8 (by omega) (by omega)];omega
  have em:Int.tmod (s:Int) 64=(r:Int):=by rw [B9i (by omega)];omega
  have er:C3 ((64:Int)-(r:Int))=((64-r:Nat):Int):=by rw [C4 (by omega) (by omega)];omega
  simp only [ed,em,er,B8g]
  have e1:B5 (B5 ((xs.length:Int)+k0)+1)=((xs.length+k0+1:Nat):Int):=by rw [B8 (n:=(xs.length:Int)+k0) (by omega) (by omega),B8 (by omega) (by omega)];omega
  rw [e1]
  refine O3 L0 (by omega) (by omega) (by omega) ?_
  intro b hb
  rw [B8g]
  refine ⟨_,_,_,rfl,?_⟩
  have hps:0<(2:Int)^r:=B9a (by decide)
  have hpt:0<(2:Int)^(64-r):=B9a (by decide)
  have hpp:=T7 (s:=r) (by omega)
  refine ⟨fun l h'=>∃ (k:Nat) (zs:List Int),l=[I k]/\k<=xs.length/\zs.length=xs.length+k0+1/\Dig b64 zs/\h'=blk .u64 B9 h b zs/\zs.drop (k+k0+1)=B8i (xs.length-k) 0/\zs.getD (k+k0) 0<2^r/\val b64 (zs.take (k+k0+1))=val b64 (xs.take k)*2^s,fun l _=>xs.length-(iAt l 0).toNat,⟨0,_,rfl,by omega,by simp,K6 (by decide) _,rfl,?_,?_,?_⟩,?_⟩
  ·rw [B90];congr 1;omega
  ·have:(B8i (xs.length+k0+1) (0:Int)).getD (0+k0) 0=0:=by simp [B9p,List.getElem?_replicate];split<;>rfl
   rw [this];exact hps
  ·rw [B9f,Bh];simp [val]
  rintro i hp ⟨k,zs,hli,hk,hzl,hd,rfl,hdr,hg,hv⟩
  obtain rfl:=sI1 hli
  have hle:=Ja (k:=.u64) (e:=B9) hb zs
  refine B7 (fun h1=>?_) (fun h1=>?_)
  ·have gx:=K5 dx k
   have gz:=K5 hd (k+k0)
   have vx:=C7 b64 xs k
   have vz:=C7 b64 zs (k+k0)
   have e2:B5 ((k:Int)+k0)=((k+k0:Nat):Int):=by rw [B8 (by omega) (by omega)];omega
   have e3:B5 (((k+k0:Nat):Int)+1)=((k+k0+1:Nat):Int):=by rw [B8 (by omega) (by omega)];omega
   rw [e2,e3]
   refine (sx.mono hle).load rfl (by omega) (by omega) ?_
   refine (Pm .u64 B9 h b zs).load hzl.symm (by omega) (by omega) ?_
   simp only [B8g]
   refine B7 (fun e=>absurd e (by omega)) (fun _=>?_)
   refine ⟨_,rfl,by omega,by omega,?_⟩
   obtain ⟨o1,o2,o3⟩:=Rx (s:=r) (by omega) gx ⟨gz.1,hg⟩
   rw [B8m (show r<=64 by omega),F1,o1,A8w (show 64-r<=64 by omega)]
   have hm0:=Bo (xs.getD k 0*2^r)
   refine Bu (zs:=zs) (i:=k+k0) D8 (by first|omega|(rw [B95];omega)) ?_
   refine B7 (fun e=>absurd e (by omega)) (fun _=>?_)
   refine ⟨_,rfl,by omega,by omega,?_⟩
   refine Bu (zs:=zs.set (k+k0) (zs.getD (k+k0) 0+xs.getD k 0*2^r%18446744073709551616)) (i:=k+k0+1) D8 (by first|omega|(rw [B95];omega)) ?_
   have hq:0<=xs.getD k 0/2^(64-r)/\xs.getD k 0/2^(64-r)<2^r:=⟨B9c gx.1 (by omega),B98 hpt (by rw [hpp];exact gx.2)⟩
   have hpr:(2:Int)^r<=9223372036854775808:=by
    have:=D0 (B:=2) (by decide) (show r<=63 by omega)
    have e:(2:Int)^63=9223372036854775808:=by decide
    omega
   rw [B8 (n:=(k:Int)+1) (by omega) (by omega)]
   refine ⟨⟨k+1,(zs.set (k+k0) (zs.getD (k+k0) 0+xs.getD k 0*2^r%18446744073709551616)).set (k+k0+1) (xs.getD k 0/2^(64-r)),rfl,by omega,by simpa using hzl,(hd.set ⟨by omega,o2⟩).set ⟨hq.1,by show _<(18446744073709551616:Int);omega⟩,rfl,?_,?_,?_⟩,by simp only [iAt,B8l];omega⟩
   ·rw [show k+1+k0+1=(k+k0+1)+1 by omega,E5 (by omega),E5 (by omega),<- B9k,hdr,B90]
    congr 1
   ·rw [show k+1+k0=k+k0+1 by omega]
    have:((zs.set (k+k0) (zs.getD (k+k0) 0+xs.getD k 0*2^r%18446744073709551616)).set (k+k0+1) (xs.getD k 0/2^(64-r))).getD (k+k0+1) 0=xs.getD k 0/2^(64-r):=by
     rw [B9p,List.getElem?_set_self (by rw [B95];omega)];rfl
    rw [this];exact hq.2
   ·rw [show k+1+k0+1=(k+k0+1)+1 by omega,D5 (by rw [B95];omega),G0,D5 (by omega),G0]
    simp only [B8j,B8r,List.length_singleton]
    rw [B8m (show k+k0<=zs.length by omega),B94,vx]
    rw [vz] at hv
    have hsp:(2:Int)^s=b64^k0*2^r:=by
     rw [Gq,<- B93];congr 1;omega
    have hpk:b64^(k+k0)=b64^k*b64^k0:=B93 _ _ _
    have hdm:=B8n (xs.getD k 0) (2^(64-r))
    have key:xs.getD k 0*2^r%18446744073709551616+18446744073709551616*(xs.getD k 0/2^(64-r))=xs.getD k 0*2^r:=by
     rw [o3,<- hpp,B9m,<- B9l]
     have:xs.getD k 0%2^(64-r)+2^(64-r)*(xs.getD k 0/2^(64-r))=xs.getD k 0:=by omega
     rw [this,B8w]
    generalize xs.getD k 0*2^r%18446744073709551616=lo at *
    generalize xs.getD k 0/2^(64-r)=hi at *
    rw [hsp] at hv ⊢
    rw [hpk] at hv ⊢
    have e5:(val b64 (xs.take k)+b64^k*xs.getD k 0)*(b64^k0*2^r)=val b64 (xs.take k)*(b64^k0*2^r)+b64^k*b64^k0*(xs.getD k 0*2^r):=by grind
    rw [e5,<- hv,<- key]
    grind
  ·have hkk:k=xs.length:=by omega
   subst hkk
   rw [B8x,B8u (by omega)] at hv
   rw [<- hzl]
   refine L9 (Pm _ _ _ _ _) hd (B92 _) (by omega) ?_
   intro m hm hM
   rw [hv] at hM
   exact ⟨_,_,_,rfl,hK _ _ _ _ (Ja hb _) hm hM⟩
theorem De{x:Int}{an s:Nat}(ma:Mw h A an x)(hl:an<=1000000000)(hs:s<=1000000000000)(hK:∀ A' m c' h',h.le h'->m<=c'->Mw h' A' m (x/2^s)->K (.slice A' m c') h'):FCall prog W9 #[.slice A an ac,U s] h K:=by
 have hx0:=ma.nonneg (by decide)
 have hxl:=ma.lt (by decide)
 refine Qw _ _ _ _ ?_
 unfold Pp
 obtain ⟨k0,hk0⟩:∃ k0,k0=s/64:=⟨_,rfl⟩
 obtain ⟨r,hr⟩:∃ r,r=s%64:=⟨_,rfl⟩
 have ed0:C3 (Int.tdiv (s:Int) 64)=(k0:Int):=by
  rw [B91 (by omega),C4 (by omega) (by omega)];omega
 have ed1:B5 (k0:Int)=(k0:Int):=B8 (by omega) (by omega)
 have em:Int.tmod (s:Int) 64=(r:Int):=by rw [B9i (by omega)];omega
 have er:C3 ((64:Int)-(r:Int))=((64-r:Nat):Int):=by rw [C4 (by omega) (by omega)];omega
 have en:C3 (an:Int)=(an:Int):=C4 (by omega) (by omega)
 simp only [ed0,ed1,em,er,en,B8g]
 have hsp:(2:Int)^s=b64^k0*2^r:=by
  rw [Gq,<- B93];congr 1;omega
 refine B7 (fun h1=>?_) (fun h1=>?_)
 ·have:x/2^s=0:=by
   apply B99 hx0
   rw [hsp]
   have t1:=D0 (B:=b64) (by decide) (show an<=k0 by omega)
   have t2:b64^k0*1<=b64^k0*2^r:=B8k (by have:0<(2:Int)^r:=B9a (by decide);omega) (B8q (D4 (by decide) _))
   omega
  rw [this] at hK
  exact hK _ _ _ _ (B4 _) (B92 _) Mag.zero
 ·obtain ⟨xs,rfl,sx,dx,nx,rfl⟩:=ma
  have e1:B5 ((xs.length:Int)-k0)=((xs.length-k0:Nat):Int):=by rw [B8 (by omega) (by omega)];omega
  rw [e1]
  refine O3 L0 (by omega) (by omega) (by omega) ?_
  intro b hb
  rw [B8g]
  refine ⟨_,_,_,rfl,?_⟩
  have hp:0<(2:Int)^r:=B9a (by decide)
  have hps:=T7 (s:=r) (by omega)
  have hpt:0<(2:Int)^(64-r):=B9a (by decide)
  have hwl:(xs.drop k0).length=xs.length-k0:=B8p
  have hgw:∀ i,(xs.drop k0).getD i 0=xs.getD (k0+i) 0:=fun i=>A5n
  refine ⟨fun l h'=>∃ (k:Nat) (zs:List Int),l=[I k]/\k<=xs.length-k0/\zs.length=xs.length-k0/\Dig b64 zs/\h'=blk .u64 B9 h b zs/\2^r*val b64 (zs.take k)+(xs.drop k0).getD 0 0%2^r=val b64 ((xs.drop k0).take k)+b64^k*((xs.drop k0).getD k 0%2^r),fun l _=>xs.length-(iAt l 0).toNat,⟨0,_,rfl,by omega,by simp,K6 (by decide) _,rfl,by simp [val]⟩,?_⟩
  rintro i hp1 ⟨k,zs,hli,hk,hzl,hd,rfl,hv⟩
  obtain rfl:=sI1 hli
  have hle:∀ zs,h.le (blk .u64 B9 h b zs):=fun zs=>Ja (k:=.u64) (e:=B9) hb zs
  have gz:=K5 (dx.drop k0) k
  refine B7 (fun h2=>?_) (fun h2=>?_)
  ·have e2:B5 ((k:Int)+k0)=((k0+k:Nat):Int):=by rw [B8 (by omega) (by omega)];omega
   have e3:B5 (((k0+k:Nat):Int)+1)=((k0+(k+1):Nat):Int):=by rw [B8 (by omega) (by omega)];omega
   rw [e2,e3]
   refine (sx.mono (hle zs)).load rfl (by omega) (by omega) ?_
   refine B7 (fun e=>absurd e (by omega)) (fun _=>?_)
   refine ⟨_,rfl,by omega,by omega,?_⟩
   simp only [B8g]
   rw [<- hgw k,A8w (show r<=64 by omega)]
   have hq0:0<=(xs.drop k0).getD k 0/2^r:=B9c gz.1 (by omega)
   have hq1:(xs.drop k0).getD k 0/2^r<2^(64-r):=by
    apply B98 hp
    rw [B8w,hps];exact gz.2
   have hpt2:(2:Int)^(64-r)<=18446744073709551616:=by
    rw [<- hps]
    have:=B8h (show 1<=(2:Int)^r by omega) (B8q hpt);omega
   refine Bu (zs:=zs) (i:=k) D8 (by first|omega|(rw [B95];omega)) ?_
   have d1:Dig b64 (zs.set k ((xs.drop k0).getD k 0/2^r)):=hd.set ⟨hq0,by show _<(18446744073709551616:Int);omega⟩
   have l1:(zs.set k ((xs.drop k0).getD k 0/2^r)).length=xs.length-k0:=by rw [B95];exact hzl
   have g1:(zs.set k ((xs.drop k0).getD k 0/2^r)).getD k 0=(xs.drop k0).getD k 0/2^r:=by simp [B9p,show k<zs.length by omega]
   have vr:=C7 b64 (xs.drop k0) k
   have fin:∀ z:Int,2^r*z=(xs.drop k0).getD k 0-(xs.drop k0).getD k 0%2^r+18446744073709551616*((xs.drop k0).getD (k+1) 0%2^r)->
    2^r*val b64 ((zs.set k z).take (k+1))+(xs.drop k0).getD 0 0%2^r=val b64 ((xs.drop k0).take (k+1))+b64^(k+1)*((xs.drop k0).getD (k+1) 0%2^r):=by
    intro z ez
    rw [D5 (by omega),G0,B8j,B8m (by omega),vr,B94]
    have e1:2^r*(val b64 (zs.take k)+b64^k*z)=2^r*val b64 (zs.take k)+b64^k*(2^r*z):=by grind
    rw [e1,ez]
    grind
   have hdm:=B8n ((xs.drop k0).getD k 0) (2^r)
   have ek1:B5 ((k:Int)+1)=((k+1:Nat):Int):=by rw [B8 (by omega) (by omega)];omega
   rw [ek1]
   refine B7 (fun h3=>?_) (fun h3=>?_)
   ·have ld:=(Pm .u64 B9 h b (zs.set k ((xs.drop k0).getD k 0/2^r)))
    obtain ⟨aa,haa,hcc⟩:=SlV.at ld (i:=k) (by simp;omega)
    refine ⟨aa,haa,by omega,by omega,(xs.drop k0).getD k 0/2^r,?_,?_⟩
    ·rw [Nat.mul_one,hcc]
     congr 1
     simp only [List.getElem_map]
     congr 1
     simp
    refine (sx.mono (hle _)).load rfl (by omega) (by omega) ?_
    refine B7 (fun e=>absurd e (by omega)) (fun _=>?_)
    refine ⟨_,rfl,by omega,by omega,?_⟩
    simp only [B8g]
    rw [<- hgw (k+1)]
    have gr:=K5 (dx.drop k0) (k+1)
    obtain ⟨o1,o2,o3⟩:=Rx (s:=64-r) (by omega) gr ⟨hq0,hq1⟩
    rw [B8m (show 64-r<=64 by omega),F1,o1]
    refine Bu (zs:=zs.set k ((xs.drop k0).getD k 0/2^r)) (i:=k) D8 (by first|omega|(rw [B95];omega)) ?_
    rw [List.set_set]
    have hm0:=Bo ((xs.drop k0).getD (k+1) 0*2^(64-r))
    refine ⟨⟨k+1,zs.set k ((xs.drop k0).getD k 0/2^r+(xs.drop k0).getD (k+1) 0*2^(64-r)%18446744073709551616),rfl,by omega,by simpa using hzl,hd.set ⟨by omega,o2⟩,rfl,fin _ ?_⟩,by simp only [iAt,B8l];omega⟩
    rw [o3,show 64-(64-r)=r by omega,B9l,<- B9m,hps]
    omega
   ·have e0:(xs.drop k0).getD (k+1) 0=0:=by simp only [B9p,B9y (show (xs.drop k0).length<=k+1 by omega)];rfl
    refine ⟨⟨k+1,zs.set k ((xs.drop k0).getD k 0/2^r),rfl,by omega,l1,d1,rfl,fin _ ?_⟩,by simp only [iAt,B8l];omega⟩
    rw [e0,Int.zero_emod,C04,C05];omega
  ·have hkr:k=xs.length-k0:=by omega
   subst hkr
   have e0:(xs.drop k0).getD (xs.length-k0) 0=0:=by simp only [B9p,B9y (show (xs.drop k0).length<=xs.length-k0 by omega)];rfl
   rw [e0,Int.zero_emod,C04,C05,B8u (by omega),B8u (by omega)] at hv
   have hr0:=B8y ((xs.drop k0).getD 0 0) (show (2:Int)^r≠0 by omega)
   have hr1:=B8t ((xs.drop k0).getD 0 0) hp
   have hvz:val b64 xs/2^s=val b64 zs:=by
    have sp:=G2 b64 xs (i:=k0) (by omega)
    have t1:=M0 (by decide) (dx.take k0)
    have t2:=C5 (by decide) (dx.take k0)
    rw [B8j,B8m (by omega)] at t1
    rw [hsp,<- Int.ediv_ediv_of_nonneg (B8q (D4 (by decide) _)),sp,Int.add_mul_ediv_left _ _ (by have:=D4 (B:=b64) (by decide) k0;omega),B99 t2 t1,B9q,<- hv,C00,Int.add_mul_ediv_left _ _ (by omega),B99 hr0 hr1,B9q]
   rw [<- hzl]
   refine L9 (Pm _ _ _ _ _) hd (B92 _) (by omega) ?_
   intro m hm hM
   rw [<- hvz] at hM
   exact ⟨_,_,_,rfl,hK _ _ _ _ (Ja hb _) hm hM⟩
end
theorem Ae(B:Int)(xs:List Int)(n:Nat):val B (xs++B8i n 0)=val B xs:=by rw [E7,Bh];omega
theorem Ih{xs:List Int}{k:Nat}(h:Norm xs)(hk:k<xs.length):Norm (xs.drop k):=by
 unfold Norm at *
 rwa [List.getLast?_drop,if_neg (by omega)]
theorem Mw.of{h:Heap}{A:Option Addr}{xs:List Int}(s:SlI .u64 h A xs)(d:Dig b64 xs)(n:Norm xs):Mw h A xs.length (val b64 xs):=⟨xs,rfl,s,d,n,rfl⟩
theorem Uz{k:IntKind}{h:Heap}{A:Option Addr}{xs:List Int}(s:SlI k h A xs){c l:Nat}(hl:l<=xs.length)(hc:xs.length<=c):SlI k h (J1 A c l 1) (xs.drop l):=by
 have:=s.cut (c:=c) (l:=l) (m:=xs.length) hl (B92 _) hc
 rwa [B8u (by rw [B8p];omega)] at this
theorem Fz{k:IntKind}{h:Heap}{A:Option Addr}{xs:List Int}(s:SlI k h A xs){c m:Nat}(hm:m<=xs.length)(hc:xs.length<=c):SlI k h A (xs.take m):=by
 have:=s.cut (c:=c) (l:=0) (m:=m) (by omega) hm hc
 simpa [J6] using this
theorem W4{h:Heap}{K:VP}{A:Option Addr}{ac n:Nat}{v:Int}{xs:List Int}(s:SlI .u64 h A xs)(hd:Dig b64 xs)(hn:n=xs.length)(hv:val b64 xs=v)(hc:n<=ac)(hl:n<=10000000000)(hK:∀ m,m<=n->Mw h A m v->K (.slice A m ac) h):FCall prog F7 #[.slice A n ac] h K:=by
 subst hn hv
 exact L9 s hd hc hl hK
def B5j(N:Nat):Prop:=∀ {h:Heap} {K:VP} {A B:Option Addr} {ac bc an bn:Nat} {x y:Int},an+bn<=N->Mw h A an x->Mw h B bn y->an<=ac->bn<=bc->an<=1000000000->bn<=1000000000->
 (∀ A' m c' h',h.le h'->m<=c'->Mw h' A' m (x*y)->K (.slice A' m c') h')->FCall prog C9 #[.slice A an ac,.slice B bn bc] h K
section
variable {h g:Heap} {K:VP} {A B:Option Addr} {ac bc:Nat}
theorem B4a{xs ys:List Int}{b:Nat}(hb:h b=none)(sx:SlI .u64 h A xs)(dx:Dig b64 xs)(sy:SlI .u64 h B ys)(dy:Dig b64 ys)(hl:xs.length<=1000000000)(hl2:ys.length<=1000000000)
 (hK:∀ A' m c' h',h.le h'->m<=c'->Mw h' A' m (val b64 xs*val b64 ys)->K (.slice A' m c') h'):
 S9 prog K A xs.length ac B ys.length (some ⟨b,0,none⟩) (xs.length+ys.length) (xs.length+ys.length) (blk .u64 B9 h b (B8i (xs.length+ys.length) 0)):=by
 unfold S9
 refine ⟨fun l hp=>∃ (k:Nat) (zs:List Int),l=[I k]/\k<=ys.length/\zs.length=xs.length+ys.length/\Dig b64 zs/\Win .u64 hp h b B9 (some ⟨b,0,none⟩) [] zs []/\zs.drop (k+xs.length)=B8i (ys.length-k) 0/\val b64 (zs.take (k+xs.length))=val b64 xs*val b64 (ys.take k),fun l _=>ys.length-(iAt l 0).toNat,⟨0,_,rfl,by omega,by simp,K6 (by decide) _,Win.blk .u64 B9 hb _,?_,?_⟩,?_⟩
 ·rw [B90];congr 1;omega
 ·rw [B9f,Bh];simp [val]
 rintro i hp ⟨k,zs,hli,hk,hzl,hd,w,hdr,hv⟩
 obtain rfl:=sI1 hli
 refine B7 (fun h1=>?_) (fun h1=>?_)
 ·have gy:=K5 dy k
  have vy:=C7 b64 ys k
  have e1:B5 ((k:Int)+xs.length)=((k+xs.length:Nat):Int):=by rw [B8 (by omega) (by omega)];omega
  rw [e1]
  refine (sy.mono w.le).load rfl (by omega) (by omega) ?_
  simp only [B8g]
  refine ⟨⟨by omega,by omega⟩,⟨by omega,by omega⟩,?_⟩
  have hwl:((zs.drop k).take (k+xs.length-k)).length=xs.length:=by rw [B8j,B8p];omega
  refine Ev (w.sub (l:=k) (m:=k+xs.length) (c:=xs.length+ys.length) (by omega) (by omega) (by omega)) (by rw [hwl];omega) sx rfl ((hd.drop k).take _) dx hwl gy (by omega) ?_
  intro ws c h' hwsl hwsd hc hwv w'
  rw [hwl] at hwsl
  have w2:=w.whole (l:=k) (m:=k+xs.length) (by omega) (by omega) (by omega) w'
  refine ⟨_,rfl,_,rfl,by omega,by omega,?_⟩
  have hl3:(zs.take k++ws++zs.drop (k+xs.length)).length=xs.length+ys.length:=by
   simp only [B8r,B8j,B8p];omega
  refine w2.storeN (i:=k+xs.length) D8 rfl (by omega) ?_
  intro h4 w4
  rw [B8 (n:=(k:Int)+1) (by omega) (by omega)]
  have htk:(zs.take k++ws++zs.drop (k+xs.length)).take (k+xs.length)=zs.take k++ws:=by
   apply B9n
   simp only [B8r,B8j];omega
  have hdk:(zs.take k++ws++zs.drop (k+xs.length)).drop (k+xs.length)=zs.drop (k+xs.length):=by
   apply B9z
   simp only [B8r,B8j];omega
  refine ⟨⟨k+1,_,rfl,by omega,by rw [B95];exact hl3,(((hd.take k).append hwsd).append (hd.drop _)).set hc,w4,?_,?_⟩,by simp only [iAt,B8l];omega⟩
  ·rw [show k+1+xs.length=(k+xs.length)+1 by omega,E5 (by omega),<- B9k,hdk,hdr,B90]
   congr 1
  ·rw [show k+1+xs.length=(k+xs.length)+1 by omega,D5 (by omega),htk,G0,E7,vy]
   simp only [B8r,B8j]
   rw [B8m (by omega),hwsl,B93]
   have hs1:val b64 (zs.take (k+xs.length))=val b64 (zs.take k)+b64^k*val b64 ((zs.drop k).take (k+xs.length-k)):=by
    rw [show k+xs.length-k=xs.length by omega,List.take_add,E7,B8j,B8m (by omega)]
   rw [hwl] at hwv
   rw [hs1] at hv
   grind
 ·have hkk:k=ys.length:=by omega
  subst hkk
  rw [B8x,B8u (by omega)] at hv
  rw [<- hzl]
  refine L9 w.sl hd (B92 _) (by omega) ?_
  intro m hm hM
  rw [hv] at hM
  exact ⟨_,_,_,rfl,hK _ _ _ _ w.le hm hM⟩
theorem Jz{x y:Int}{an bn N:Nat}(ih:B5j N)(hN:2*bn<=N)(ma:Mw h A an x)(mb:Mw h B bn y)(ha:an<=ac)(hbc:bn<=bc)(hl:an<=1000000000)(hb0:0<bn)(hba:bn<=an)(hK:∀ A' m c' h',h.le h'->m<=c'->Mw h' A' m (x*y)->K (.slice A' m c') h'):FCall prog Y8 #[.slice A an ac,.slice B bn bc] h K:=by
 have hy0:=mb.nonneg (by decide)
 have hylt:=mb.lt (by decide)
 obtain ⟨xs,rfl,sx,dx,nx,rfl⟩:=ma
 refine Mf _ _ _ _ _ _ ?_
 unfold Je
 have e1:B5 ((xs.length:Int)+bn)=((xs.length+bn:Nat):Int):=by rw [B8 (by omega) (by omega)];omega
 rw [e1]
 refine O3 L0 (by omega) (by omega) (by omega) ?_
 intro b hb
 rw [B8g]
 refine ⟨_,_,_,rfl,?_⟩
 refine ⟨fun l hp=>∃ (k:Nat) (zs:List Int) (g:Heap),l=[I k]/\k<=xs.length+bn/\h.le g/\zs.length=xs.length+bn/\Dig b64 zs/\Win .u64 hp g b B9 (some ⟨b,0,none⟩) [] zs []/\val b64 zs=val b64 (xs.take k)*y,fun l _=>xs.length+bn-(iAt l 0).toNat,⟨0,_,h,rfl,by omega,B4 h,by simp,K6 (by decide) _,Win.blk .u64 B9 hb _,by rw [Bh];simp [val]⟩,?_⟩
 rintro i hp ⟨k,zs,g,hli,hk,lg,hzl,hd,w,hv⟩
 obtain rfl:=sI1 hli
 refine B7 (fun h1=>?_) (fun h1=>?_)
 ·have e2:B5 ((k:Int)+bn)=((k+bn:Nat):Int):=by rw [B8 (by omega) (by omega)];omega
  rw [e2]
  obtain ⟨en,hen⟩:∃ en,en=min xs.length (k+bn):=⟨_,rfl⟩
  have e3:(if (xs.length:Int)<((k+bn:Nat):Int) then (xs.length:Int) else ((k+bn:Nat):Int))=(en:Int):=by split<;>omega
  rw [e3]
  simp only [B8g]
  refine ⟨⟨by omega,by omega⟩,⟨by omega,by omega⟩,⟨by omega,by omega⟩,?_⟩
  have hpl:((xs.drop k).take (en-k)).length=en-k:=by rw [B8j,B8p];omega
  have sp:SlI .u64 g (J1 A ac k 1) ((xs.drop k).take (en-k)):=(sx.mono lg).cut (c:=ac) (l:=k) (m:=en) (by omega) (by omega) ha
  have dp:Dig b64 ((xs.drop k).take (en-k)):=(dx.drop k).take _
  have hx0:=C5 (by decide) dx
  have goal:∀ m,m<=en-k->Norm (((xs.drop k).take (en-k)).take m)->val b64 (((xs.drop k).take (en-k)).take m)=val b64 ((xs.drop k).take (en-k))->
   FCall prog C9 #[.slice (J1 A ac k 1) m (ac-k),.slice B bn bc] hp (fun r1 hp3=>∃ (t38A:Option Addr) (t38n:Nat) (t38c:Nat),r1= .slice t38A t38n t38c/\Heap.le hp hp3/\FCall prog P8 #[.slice (J1 (some ⟨b,0,none⟩) (xs.length+bn) k 1) (xs.length+bn-k) (xs.length+bn-k),.slice t38A t38n t38c] hp3 (fun r2 hp4=>r2= .tuple #[]/\(∃ (k_1:Nat) (zs:List Int) (g:Heap),[I ((k+bn:Nat):Int)]=[I k_1]/\k_1<=xs.length+bn/\h.le g/\zs.length=xs.length+bn/\Dig b64 zs/\Win .u64 hp4 g b B9 (some ⟨b,0,none⟩) [] zs []/\val b64 zs=val b64 (xs.take k_1)*y)/\xs.length+bn-(iAt [I ((k+bn:Nat):Int)] 0).toNat<xs.length+bn-(iAt [I k] 0).toNat)):=by
   intro m hm hnm hvm
   have Mp:Mw g (J1 A ac k 1) m (val b64 ((xs.drop k).take (en-k))):=⟨((xs.drop k).take (en-k)).take m,by rw [B8j];omega,Fz sp (c:=ac) (by omega) (by omega),dp.take m,hnm,hvm⟩
   refine w.call ?_
   refine ih (by omega) Mp (mb.mono lg) (by omega) hbc (by omega) (by omega) ?_
   intro A' m' c' g2 l2 hc2 M2 h3 w3
   refine ⟨_,_,_,rfl,?_,?_⟩
   ·rw [w.eq,w3.eq]
    intro kk o hk2
    by_cases hkb:kk=b
    ·subst hkb;rw [C1] at hk2 ⊢;exact hk2
    ·rw [B6 _ _ hkb] at hk2 ⊢;exact l2 kk o hk2
   obtain ⟨ps,hpl2,sps,dps,nps,hpv⟩:=M2
   have hsp:=G2 b64 zs (i:=k) (by omega)
   have hz0:=C5 (by decide) (hd.take k)
   have htk:xs.take en=xs.take k++(xs.drop k).take (en-k):=by
    have:=List.take_add (l:=xs) (i:=k) (j:=en-k)
    rwa [show k+(en-k)=en by omega] at this
   have hvt:val b64 (xs.take en)=val b64 (xs.take k)+b64^k*val b64 ((xs.drop k).take (en-k)):=by
    rw [htk,E7,B8j,B8m (by omega)]
   have hTot:val b64 zs+b64^k*val b64 ps=val b64 (xs.take en)*y:=by
    rw [hv,hpv,hvt];grind
   have hTl:val b64 (xs.take en)*y<b64^(xs.length+bn):=by
    have t1:=M0 (by decide) (dx.take en)
    have t2:=C5 (by decide) (dx.take en)
    rw [B8j,B8m (by omega)] at t1
    have t3:val b64 (xs.take en)*y<=b64^en*y:=B8h (by omega) hy0
    have t4:b64^en*y<b64^en*b64^bn:=B9j hylt (D4 (by decide) en)
    rw [<- B93] at t4
    have t5:=D0 (B:=b64) (by decide) (show en+bn<=xs.length+bn by omega)
    omega
   have hfit:val b64 (zs.drop k)+val b64 ps<b64^(xs.length+bn-k):=by
    have e5:b64^(xs.length+bn)=b64^k*b64^(xs.length+bn-k):=by rw [<- B93];congr 1;omega
    by_cases hc:val b64 (zs.drop k)+val b64 ps<b64^(xs.length+bn-k)
    ·exact hc
    ·have:=B8k (show b64^(xs.length+bn-k)<=val b64 (zs.drop k)+val b64 ps by omega) (B8q (D4 (B:=b64) (by decide) k))
     rw [B9l] at this
     omega
   have hzd0:=C5 (by decide) (hd.drop k)
   have hpn:ps.length<=xs.length+bn-k:=by
    have Mps:Mw g2 A' ps.length (val b64 ps):=⟨ps,rfl,sps,dps,nps,rfl⟩
    exact Mps.len_le (by decide) (by omega)
   have ws:=w3.sub (l:=k) (m:=xs.length+bn) (c:=xs.length+bn) (by omega) (by omega) (by omega)
   have hwd:(zs.drop k).take (xs.length+bn-k)=zs.drop k:=B8u (by rw [B8p];omega)
   have hwl:(zs.drop k).length=xs.length+bn-k:=by rw [B8p];omega
   rw [hwd] at ws
   refine Ew ws hwl.symm sps hpl2 (hd.drop k) dps (by omega) (by rw [hwl];exact hfit) (by omega) ?_
   intro us h5 hul hud huv w5
   have w6:=w3.whole (l:=k) (m:=xs.length+bn) (by omega) (by omega) (by omega) w5
   refine ⟨rfl,⟨k+bn,_,g2,rfl,by omega,B0 lg l2,?_,((hd.take k).append hud).append (hd.drop _),w6,?_⟩,by simp only [iAt,B8l];omega⟩
   ·simp only [B8r,B8j,B8p];omega
   ·rw [B8z (by omega),B9g,E7,B8j,B8m (by omega),huv]
    have:xs.take (k+bn)=xs.take en:=by
     rw [hen]
     by_cases hc:xs.length<=k+bn
     ·rw [B8m hc,B8x,B8u hc]
     ·rw [Nat.min_eq_right (by omega)]
    rw [this,<- hTot,hsp];grind
  have tr:=Bf (K:=fun r hp2=>∃ (t36A:Option Addr) (t36n:Nat) (t36c:Nat),r= .slice t36A t36n t36c/\Heap.le hp hp2/\FCall prog C9 #[.slice t36A t36n t36c,.slice B bn bc] hp2 (fun r1 hp3=>∃ (t38A:Option Addr) (t38n:Nat) (t38c:Nat),r1= .slice t38A t38n t38c/\Heap.le hp2 hp3/\FCall prog P8 #[.slice (J1 (some ⟨b,0,none⟩) (xs.length+bn) k 1) (xs.length+bn-k) (xs.length+bn-k),.slice t38A t38n t38c] hp3 (fun r2 hp4=>r2= .tuple #[]/\(∃ (k_1:Nat) (zs:List Int) (g:Heap),[I ((k+bn:Nat):Int)]=[I k_1]/\k_1<=xs.length+bn/\h.le g/\zs.length=xs.length+bn/\Dig b64 zs/\Win .u64 hp4 g b B9 (some ⟨b,0,none⟩) [] zs []/\val b64 zs=val b64 (xs.take k_1)*y)/\xs.length+bn-(iAt [I ((k+bn:Nat):Int)] 0).toNat<xs.length+bn-(iAt [I k] 0).toNat))) (ac:=ac-k) (sp.mono w.le) (by omega) (by omega) (fun m hm hnm hvm=>⟨_,_,_,rfl,B4 _,goal m (by omega) hnm hvm⟩)
  rw [hpl] at tr
  exact tr
 ·have htl:xs.take k=xs:=B8u (by omega)
  rw [htl] at hv
  rw [<- hzl]
  refine L9 w.sl hd (B92 _) (by omega) ?_
  intro m hm hM
  rw [hv] at hM
  exact ⟨_,_,_,rfl,hK _ _ _ _ (B0 lg w.le) hm hM⟩
theorem B8a{X0 X1 Y0 Y1 P:Int}(hx0:0<=X0)(hx1:0<=X1)(hy0:0<=Y0)(hy1:0<=Y1):
 X0*Y0<=(X0+X1)*(Y0+Y1)/\X1*Y1<=(X0+X1)*(Y0+Y1)-X0*Y0/\(X0+P*X1)*(Y0+P*Y1)=X0*Y0+P*((X0+X1)*(Y0+Y1)-X0*Y0-X1*Y1)+P*P*(X1*Y1):=by
 have a:=B8s hx0 hy0
 have b:=B8s hx0 hy1
 have c:=B8s hx1 hy0
 have d:=B8s hx1 hy1
 have e:(X0+X1)*(Y0+Y1)=X0*Y0+X0*Y1+X1*Y0+X1*Y1:=by grind
 refine ⟨by omega,by omega,?_⟩
 rw [e];grind
theorem B6f:∀ N,B5j N:=by
 intro N
 induction N with
 | zero=>
  intro h K A B ac bc an bn x y hN ma mb ha hb hl hl2 hK
  have h0:=ma.len_zero (by decide)
  have hx:x=0:=h0.2 (by omega)
  subst hx
  rw [Int.zero_mul] at hK
  refine By _ _ _ _ _ _ ?_
  unfold Bb
  refine ⟨fun l h'=>h'=h/\l=[.slice A an ac,.slice B bn bc],B7 (fun e=>absurd e (by omega)) (fun _=>⟨rfl,rfl⟩),?_⟩
  rintro A1 n1 c1 B1 n2 c2 hp ⟨rfl,hl⟩
  obtain ⟨⟨rfl,rfl,rfl⟩,rfl,rfl,rfl⟩:(A1=A/\n1=an/\c1=ac)/\B1=B/\n2=bn/\c2=bc:=by simpa using hl
  refine D9 (fun _=>hK none 0 0 _ (B4 _) (B92 _) Mag.zero) (fun e=>absurd (by omega) e)
 | succ N ih=>
  intro h K A B ac bc an bn x y hN ma mb ha hb hl hl2 hK
  refine By _ _ _ _ _ _ ?_
  unfold Bb
  refine ⟨fun l h'=>h'=h/\∃ (A1 B1:Option Addr) (n1 n2 c1 c2:Nat) (x1 y1:Int),l=[.slice A1 n1 c1,.slice B1 n2 c2]/\Mw h A1 n1 x1/\Mw h B1 n2 y1/\n2<=n1/\n1<=1000000000/\n1<=c1/\n2<=c2/\n1+n2<=N+1/\x1*y1=x*y,B7 (fun h1=>?_) (fun h1=>?_),?_⟩
  ·exact ⟨rfl,_,_,_,_,_,_,y,x,rfl,mb,ma,by omega,hl2,hb,ha,by omega,B8w _ _⟩
  ·exact ⟨rfl,_,_,_,_,_,_,x,y,rfl,ma,mb,by omega,hl,ha,hb,by omega,rfl⟩
  clear ma mb ha hb hl hl2 hN
  rintro A1 n1 c1 B1 n2 c2 hp ⟨rfl,A1',B1',n1',n2',c1',c2',x1,y1,hli,m1,m2,hn,hl1,hc1,hc2,hNN,hxy⟩
  obtain ⟨⟨rfl,rfl,rfl⟩,rfl,rfl,rfl⟩:(A1=A1'/\n1=n1'/\c1=c1')/\B1=B1'/\n2=n2'/\c2=c2':=by simpa using hli
  rw [<- hxy] at hK
  clear hli hxy
  have hz:=m2.len_zero (by decide)
  refine D9 (fun h0=>?_) (fun h0=>?_)
  ·have:y1=0:=hz.2 (by omega)
   subst this
   rw [C04] at hK
   exact hK none 0 0 _ (B4 _) (B92 _) Mag.zero
  ·refine ⟨fun l h'=>∃ t:Bool,h'=hp/\l=[.bool t]/\(t=true->y1=1),D9 (fun h1=>?_) (fun h1=>⟨false,rfl,rfl,fun e=>by cases e⟩),?_⟩
   ·obtain ⟨ys,hyl,sy,dy,ny,hyv⟩:=m2
    refine sy.load hyl (by omega) (by omega) ⟨_,rfl,rfl,fun e=>?_⟩
    have e1:ys.getD 0 0=1:=by simpa using e
    obtain ⟨d,rfl⟩:∃ d,ys=[d]:=by
     cases ys with
     | nil=>simp at hyl;omega
     | cons d r=>
      cases r with
      | nil=>exact ⟨d,rfl⟩
      | cons _ _=>simp at hyl;omega
    rw [<- hyv,Ce];simpa using e1
   rintro tb hp1 ⟨t',rfl,hl2,hone⟩
   obtain rfl:tb=t':=by simpa using hl2
   refine Br.of (fun e=>?_) (fun _=>?_)
   ·rw [hone e,Int.mul_one] at hK
    exact hK _ _ _ _ (B4 _) hc1 m1
   clear hone hl2
   have eL:B5 ((n1:Int)+n2)=((n1+n2:Nat):Int):=by rw [B8 (by omega) (by omega)];omega
   refine B7 (fun h2=>?_) (fun h2=>?_)
   ·obtain ⟨xs,rfl,sx,dx,nx,rfl⟩:=m1
    obtain ⟨ys,rfl,sy,dy,ny,rfl⟩:=m2
    rw [eL]
    refine O3 L0 (by omega) (by omega) (by omega) ?_
    intro b hb
    rw [B8g]
    exact ⟨_,_,_,rfl,B4a hb sx dx sy dy hl1 (by omega) hK⟩
   ·obtain ⟨H,hH⟩:∃ H,H=(n1+1)/2:=⟨_,rfl⟩
    have eH:B5 (Int.tdiv (B5 ((n1:Int)+1)) 2)=(H:Int):=by
     rw [B8 (n:=(n1:Int)+1) (by omega) (by omega),B91 (by omega),B8 (by omega) (by omega)];omega
    have e2H:B5 ((2:Int)*(H:Int))=((2*H:Nat):Int):=by rw [B8 (by omega) (by omega)];omega
    simp only [eH,eL,e2H,B8g]
    refine B7 (fun h3=>?_) (fun h3=>?_)
    ·refine Jz ih (by omega) m1 m2 hc1 hc2 hl1 (by omega) (by omega) ?_
     intro A' m c' h' l' k' M'
     exact ⟨_,_,_,rfl,hK _ _ _ _ l' k' M'⟩
    ·have hx0:=m1.nonneg (by decide)
     have hxlt:=m1.lt (by decide)
     have hylt:=m2.lt (by decide)
     have hy0:=m2.nonneg (by decide)
     obtain ⟨xs,rfl,sx,dx,nx,rfl⟩:=m1
     obtain ⟨ys,rfl,sy,dy,ny,rfl⟩:=m2
     have hHx:H<xs.length:=by omega
     have hHy:H<ys.length:=by omega
     have x0n:=C5 (by decide) (dx.take H)
     have x1n:=C5 (by decide) (dx.drop H)
     have y0n:=C5 (by decide) (dy.take H)
     have y1n:=C5 (by decide) (dy.drop H)
     have spx:=G2 b64 xs (i:=H) (by omega)
     have spy:=G2 b64 ys (i:=H) (by omega)
     have x0l:=M0 (by decide) (dx.take H)
     have y0l:=M0 (by decide) (dy.take H)
     rw [B8j,B8m (by omega)] at x0l y0l
     have hx1M:Mw hp1 (J1 A1 c1 H 1) (xs.length-H) (val b64 (xs.drop H)):=by
      have:=Mw.of (Uz sx (c:=c1) (l:=H) (by omega) hc1) (dx.drop H) (Ih nx hHx)
      rwa [B8p] at this
     have hy1M:Mw hp1 (J1 B1 c2 H 1) (ys.length-H) (val b64 (ys.drop H)):=by
      have:=Mw.of (Uz sy (c:=c2) (l:=H) (by omega) hc2) (dy.drop H) (Ih ny hHy)
      rwa [B8p] at this
     obtain ⟨ka,kb,kc⟩:=B8a (P:=b64^H) x0n x1n y0n y1n
     rw [<- spx,<- spy] at kc
     generalize hX0:val b64 (xs.take H)=X0 at *
     generalize hX1:val b64 (xs.drop H)=X1 at *
     generalize hY0:val b64 (ys.take H)=Y0 at *
     generalize hY1:val b64 (ys.drop H)=Y1 at *
     rw [J6,J6,B9d,B9d,B9d]
     refine ⟨⟨by omega,by omega⟩,⟨by omega,by omega⟩,?_⟩
     refine W4 (Fz sx (c:=c1) (m:=H) (by omega) hc1) (dx.take H) (by rw [B8j];omega) hX0 (by omega) (by omega) ?_
     intro mx hmx MX0
     refine ⟨_,_,_,rfl,B4 _,⟨by omega,by omega⟩,⟨by omega,by omega⟩,?_⟩
     refine W4 (Fz sy (c:=c2) (m:=H) (by omega) hc2) (dy.take H) (by rw [B8j];omega) hY0 (by omega) (by omega) ?_
     intro my hmy MY0
     refine ⟨_,_,_,rfl,B4 _,?_⟩
     refine ih (by omega) MX0 MY0 (by omega) (by omega) (by omega) (by omega) ?_
     intro A3 n3 c3 g3 l3 k3 M3
     refine ⟨_,_,_,rfl,?_⟩
     refine ih (by omega) (hx1M.mono l3) (hy1M.mono l3) (by omega) (by omega) (by omega) (by omega) ?_
     intro A4 n4 c4 g4 l4 k4 M4
     refine ⟨_,_,_,rfl,?_⟩
     have l34:=B0 l3 l4
     refine R2 (MX0.mono l34) (hx1M.mono l34) (by omega) (by omega) (by omega) (by omega) ?_
     intro A5 n5 c5 g5 l5 k5 M5
     refine ⟨_,_,_,rfl,?_⟩
     have l35:=B0 l34 l5
     refine R2 (MY0.mono l35) (hy1M.mono l35) (by omega) (by omega) (by omega) (by omega) ?_
     intro A6 n6 c6 g6 l6 k6 M6
     refine ⟨_,_,_,rfl,?_⟩
     have hx1l:=hx1M.lt (by decide)
     have hy1l:=hy1M.lt (by decide)
     have hpH:=D4 (B:=b64) (by decide) H
     have hpH1:b64^(H+1)=b64^H*18446744073709551616:=B94 _ _
     have n5le:n5<=H+1:=by
      refine M5.len_le (by decide) ?_
      have:=D0 (B:=b64) (by decide) (show xs.length-H<=H by omega)
      omega
     have n6le:n6<=H+1:=by
      refine M6.len_le (by decide) ?_
      have:=D0 (B:=b64) (by decide) (show ys.length-H<=H by omega)
      omega
     refine ih (by omega) (M5.mono l6) M6 k5 k6 (by omega) (by omega) ?_
     intro A7 n7 c7 g7 l7 k7 M7
     refine ⟨_,_,_,rfl,?_⟩
     have l37:=B0 (B0 l5 l6) l7
     have hprod:∀ {p q:Int} {i j:Nat},0<=p->p<b64^i->0<=q->q<b64^j->p*q<b64^(i+j):=by
      intro p q i j a b c d
      rw [B93]
      have t1:p*q<=b64^i*q:=B8h (by omega) c
      have t2:b64^i*q<b64^i*b64^j:=B9j d (D4 (by decide) i)
      omega
     have n7le:n7<=n5+n6:=M7.len_le (by decide) (hprod (M5.nonneg (by decide)) (M5.lt (by decide)) (M6.nonneg (by decide)) (M6.lt (by decide)))
     refine J2 M7 (M3.mono (B0 l4 l37)) k7 (by omega) ka ?_
     intro A8 n8 c8 g8 l8 k8 M8
     refine ⟨_,_,_,rfl,?_⟩
     have n8le:n8<=n7:=M8.len_le (by decide) (by have:=M7.lt (by decide);have:=M3.nonneg (by decide);omega)
     refine J2 M8 (M4.mono (B0 l37 l8)) k8 (by omega) kb ?_
     intro A9 n9 c9 g9 l9 k9 M9
     refine ⟨_,_,_,rfl,?_⟩
     have l39:=B0 l37 (B0 l8 l9)
     have lfin:hp1.le g9:=B0 l34 l39
     refine O3 L0 (by omega) (by omega) (by omega) ?_
     intro b hb
     rw [B8g]
     refine ⟨_,_,_,rfl,?_⟩
     have w0:=Win.blk .u64 B9 hb (B8i (xs.length+ys.length) 0)
     have n3le:n3<=H+H:=M3.len_le (by decide) (hprod x0n x0l y0n y0l)
     have n4le:n4<=(xs.length-H)+(ys.length-H):=M4.len_le (by decide) (hprod x1n hx1l y1n hy1l)
     obtain ⟨lo,hlol,slo,dlo,nlo,hlov⟩:=M3.mono (B0 l4 l39)
     obtain ⟨hi,hhil,shi,dhi,nhi,hhiv⟩:=M4.mono l39
     obtain ⟨mi,hmil,smi,dmi,nmi,hmiv⟩:=M9
     refine Da L0 w0 (by simp) (slo.mono w0.le) hlol (by simp;omega) ?_
     intro h10 w10
     refine ⟨_,rfl,⟨by omega,by omega⟩,?_⟩
     have hz1:lo++(B8i (xs.length+ys.length) (0:Int)).drop lo.length=lo++B8i (xs.length+ys.length-lo.length) 0:=by rw [B90]
     rw [hz1] at w10
     have w11:=w10.sub (l:=2*H) (m:=xs.length+ys.length) (c:=xs.length+ys.length) (by omega) (by simp;omega) (by simp;omega)
     have hz2:((lo++B8i (xs.length+ys.length-lo.length) (0:Int)).drop (2*H)).take (xs.length+ys.length-2*H)=B8i (xs.length+ys.length-2*H) 0:=by
      rw [C08,B8z (by omega),B9o,B90,B9f]
      congr 1;omega
     rw [hz2] at w11
     refine Da L0 w11 (by simp) (shi.mono w11.le) hhil (by simp;omega) ?_
     intro h12 w12
     refine ⟨_,rfl,⟨by omega,by omega⟩,?_⟩
     rw [B90] at w12
     have w13:=w10.whole (l:=2*H) (m:=xs.length+ys.length) (by omega) (by simp;omega) (by simp;omega) w12
     have hz3:(lo++B8i (xs.length+ys.length-lo.length) (0:Int)).take (2*H)=lo++B8i (2*H-lo.length) 0:=by
      rw [List.take_append,B8u (by omega),B9f]
      congr 2;omega
     have hz4:(lo++B8i (xs.length+ys.length-lo.length) (0:Int)).drop (xs.length+ys.length)=[]:=by
      apply B8z;simp;omega
     rw [hz3,hz4,B9g] at w13
     generalize hzs:lo++B8i (2*H-lo.length) (0:Int)++(hi++B8i (xs.length+ys.length-2*H-hi.length) 0)=zs at w13
     have hzl:zs.length=xs.length+ys.length:=by
      rw [<- hzs];simp;omega
     have hzd:Dig b64 zs:=by
      rw [<- hzs]
      exact (dlo.append (K6 (by decide) _)).append (dhi.append (K6 (by decide) _))
     have hzv:val b64 zs=X0*Y0+b64^H*b64^H*(X1*Y1):=by
      rw [<- hzs,E7,Ae,Ae,hlov,hhiv]
      have:(lo++B8i (2*H-lo.length) (0:Int)).length=H+H:=by simp;omega
      rw [this,B93]
     have w14:=w13.sub (l:=H) (m:=xs.length+ys.length) (c:=xs.length+ys.length) (by omega) (by omega) (by omega)
     have hz5:(zs.drop H).take (xs.length+ys.length-H)=zs.drop H:=B8u (by rw [B8p];omega)
     have hz6:(zs.drop H).length=xs.length+ys.length-H:=by rw [B8p];omega
     rw [hz5] at w14
     have hsp:=G2 b64 zs (i:=H) (by omega)
     have hz0:=C5 (by decide) (hzd.take H)
     have hzd0:=C5 (by decide) (hzd.drop H)
     have hTl:val b64 xs*val b64 ys<b64^(xs.length+ys.length):=hprod hx0 hxlt hy0 hylt
     have hTot:val b64 zs+b64^H*val b64 mi=val b64 xs*val b64 ys:=by rw [kc,hzv,hmiv];grind
     have hfit:val b64 (zs.drop H)+val b64 mi<b64^(xs.length+ys.length-H):=by
      have e5:b64^(xs.length+ys.length)=b64^H*b64^(xs.length+ys.length-H):=by rw [<- B93];congr 1;omega
      by_cases hc:val b64 (zs.drop H)+val b64 mi<b64^(xs.length+ys.length-H)
      ·exact hc
      ·have:=B8k (show b64^(xs.length+ys.length-H)<=val b64 (zs.drop H)+val b64 mi by omega) (B8q hpH)
       rw [B9l] at this
       omega
     have hmn:mi.length<=xs.length+ys.length-H:=by
      have Mmi:Mw g9 A9 mi.length (val b64 mi):=⟨mi,rfl,smi,dmi,nmi,rfl⟩
      exact Mmi.len_le (by decide) (by omega)
     refine Ew w14 hz6.symm smi hmil (hzd.drop H) dmi (by omega) (by rw [hz6];exact hfit) (by omega) ?_
     intro us h15 hul hud huv w15
     refine ⟨rfl,?_⟩
     have w16:=w13.whole (l:=H) (m:=xs.length+ys.length) (by omega) (by omega) (by omega) w15
     rw [B8z (show zs.length<=xs.length+ys.length by omega),B9g] at w16
     have hfl:(zs.take H++us).length=xs.length+ys.length:=by
      simp only [B8r,B8j];omega
     rw [<- hfl]
     refine L9 w16.sl ((hzd.take H).append hud) (by omega) (by omega) ?_
     intro m hm hM
     have hfv:val b64 (zs.take H++us)=val b64 xs*val b64 ys:=by
      rw [E7,B8j,B8m (by omega),huv,<- hTot,hsp];grind
     rw [hfv] at hM
     exact ⟨_,_,_,rfl,hK _ _ _ _ (B0 lfin w16.le) hm hM⟩
theorem F3{x y:Int}{an bn:Nat}(ma:Mw h A an x)(mb:Mw h B bn y)(ha:an<=ac)(hb:bn<=bc)(hl:an<=1000000000)(hl2:bn<=1000000000)(hK:∀ A' m c' h',h.le h'->m<=c'->Mw h' A' m (x*y)->K (.slice A' m c') h'):FCall prog C9 #[.slice A an ac,.slice B bn bc] h K:=
 B6f _ (B92 _) ma mb ha hb hl hl2 hK
end
section
variable {h g:Heap} {K:VP} {A B:Option Addr} {ac bc:Nat}
theorem A6f{hi lo y:Int}(hhi:0<=hi/\hi<y)(hlo:0<=lo/\lo<18446744073709551616)(hy:y<18446744073709551616)
 (hK:K (.tuple #[U ((hi*18446744073709551616+lo)/y),U ((hi*18446744073709551616+lo)%y)]) h):FCall prog Cy #[U hi,U lo,U y] h K:=by
 obtain ⟨n,rfl⟩:∃ n:Nat,y=n:=⟨y.toNat,by omega⟩
 exact Nl hhi hlo (by omega) hK
theorem Pf{x:Int}{an w:Nat}(ma:Mw h A an x)(hw:0<w/\w<18446744073709551616)(hl:an<=1000000000)(hK:∀ A' m c' h',h.le h'->m<=c'->m<=an->Mw h' A' m (x/w)->K (.tuple #[.slice A' m c',U (x%w)]) h'):FCall prog Cs #[.slice A an ac,U w] h K:=by
 obtain ⟨xs,rfl,sx,dx,nx,rfl⟩:=ma
 refine Qz _ _ _ _ ?_
 unfold Pv
 refine O3 L0 (by omega) (by omega) (by omega) ?_
 intro b hb
 rw [B8g]
 refine ⟨_,_,_,rfl,?_⟩
 refine ⟨fun l h'=>∃ (k:Nat) (r:Int) (zs:List Int),l=[U r,I ((k:Int)-1)]/\k<=xs.length/\zs.length=xs.length/\Dig b64 zs/\(0<=r/\r<w)/\h'=blk .u64 B9 h b zs/\val b64 (xs.drop k)=val b64 (zs.drop k)*w+r,fun l _=>(iAt l 1+1).toNat,⟨xs.length,0,_,by rw [B8 (by omega) (by omega)],by omega,by simp,K6 (by decide) _,by omega,rfl,by simp [val]⟩,?_⟩
 rintro r i hp ⟨k,r',zs,hli,hk,hzl,hd,hr,rfl,hv⟩
 obtain ⟨rfl,rfl⟩:r=r'/\i=(k:Int)-1:=by simpa using hli
 have hle:=Ja (k:=.u64) (e:=B9) hb zs
 refine B7 (fun h1=>?_) (fun h1=>?_)
 ·obtain ⟨j,rfl⟩:∃ j,k=j+1:=⟨k-1,by omega⟩
  have e:((j+1:Nat):Int)-1=(j:Int):=by omega
  rw [e]
  have gx:=K5 dx j
  refine (sx.mono hle).load rfl (by omega) (by omega) ?_
  rw [B8g]
  refine Nl hr gx hw.2 ⟨_,_,rfl,?_⟩
  have hT:0<=r*18446744073709551616+xs.getD j 0:=by omega
  have hq:0<=(r*18446744073709551616+xs.getD j 0)/w/\(r*18446744073709551616+xs.getD j 0)/w<18446744073709551616:=by
   constructor
   ·exact B9c hT (by omega)
   ·apply B98 (by omega)
    have:(r+1)*18446744073709551616<=(w:Int)*18446744073709551616:=B8h (by omega) (by decide)
    omega
  refine ⟨_,rfl,by omega,by omega,?_⟩
  refine Bu (zs:=zs) (i:=j) D8 (by omega) ?_
  rw [B8 (by omega) (by omega)]
  refine ⟨⟨j,_,zs.set j ((r*18446744073709551616+xs.getD j 0)/w),rfl,by omega,by simpa using hzl,hd.set hq,⟨B8y _ (by omega),B8t _ (by omega)⟩,rfl,?_⟩,by simp only [iAt,B8l,B8v];omega⟩
  rw [Cz (by omega),Ms b64 (by omega),hv]
  have:=B8n (r*18446744073709551616+xs.getD j 0) w
  simp only [val]
  grind
 ·have hk0:k=0:=by omega
  subst hk0
  rw [C0e,C0e] at hv
  rw [<- hzl]
  refine L9 (Pm _ _ _ _ _) hd (B92 _) (by omega) ?_
  intro m hm hM
  have hq:val b64 xs/w=val b64 zs:=by
   rw [hv,C00,B9u _ _ (by omega),B99 hr.1 hr.2,B9q]
  have hrm:val b64 xs%w=r:=by
   rw [hv,C00,C0b,C02 hr.1 hr.2]
  rw [<- hq] at hM
  rw [<- hrm]
  exact ⟨_,_,_,rfl,hK _ _ _ _ (Ja hb _) hm (by omega) hM⟩
theorem Ag{x:Int}{an w:Nat}(ma:Mw h A an x)(hw:0<w/\w<18446744073709551616)(hl:an<=1000000000)(hK:K (U (x%w)) h):FCall prog P1 #[.slice A an ac,U w] h K:=by
 obtain ⟨xs,rfl,sx,dx,nx,rfl⟩:=ma
 refine Ks _ _ _ _ ?_
 unfold Gi
 refine ⟨fun l h'=>∃ (k:Nat) (r:Int) (Q:Int),l=[U r,I ((k:Int)-1)]/\k<=xs.length/\(0<=r/\r<w)/\h'=h/\val b64 (xs.drop k)=Q*w+r,fun l _=>(iAt l 1+1).toNat,⟨xs.length,0,0,by rw [B8 (by omega) (by omega)],by omega,by omega,rfl,by simp [val]⟩,?_⟩
 rintro r i hp ⟨k,r',Q,hli,hk,hr,rfl,hv⟩
 obtain ⟨rfl,rfl⟩:r=r'/\i=(k:Int)-1:=by simpa using hli
 refine B7 (fun h1=>?_) (fun h1=>?_)
 ·obtain ⟨j,rfl⟩:∃ j,k=j+1:=⟨k-1,by omega⟩
  have e:((j+1:Nat):Int)-1=(j:Int):=by omega
  rw [e]
  have gx:=K5 dx j
  refine sx.load rfl (by omega) (by omega) ?_
  rw [B8g]
  refine Nl hr gx hw.2 ⟨_,_,rfl,?_⟩
  rw [B8 (by omega) (by omega)]
  refine ⟨⟨j,_,b64*Q+(r*18446744073709551616+xs.getD j 0)/w,rfl,by omega,⟨B8y _ (by omega),B8t _ (by omega)⟩,rfl,?_⟩,by simp only [iAt,B8l,B8v];omega⟩
  rw [Ms b64 (by omega),hv]
  have:=B8n (r*18446744073709551616+xs.getD j 0) w
  show _+(18446744073709551616:Int)*_=((18446744073709551616:Int)*_+_)*_+_
  grind
 ·have hk0:k=0:=by omega
  subst hk0
  rw [C0e] at hv
  have hrm:val b64 xs%w=r:=by
   rw [hv,C00,C0b,C02 hr.1 hr.2]
  rw [hrm] at hK;exact hK
theorem Uw{us vs:List Int}{m wn dn:Nat}{X Y:Int}(su:SlI .u64 h A us)(sv:SlI .u64 h B vs)(hwn:wn=us.length)(hdn:dn=vs.length)(du:Dig b64 us)(dv:Dig b64 vs)(hu:us.length=m+3)(hv:vs.length=m+2)(hl:m<=10000000000)(h1:b64<=2*vs.getD (m+1) 0)(hX:val b64 us=X)(hY:val b64 vs=Y)(hlt:X<Y*b64)
 (hK:∀ q,0<=q->q<18446744073709551616->X<(q+1)*Y->(q-1)*Y<=X->K (U q) h):FCall prog Hc #[.slice A wn ac,.slice B dn bc] h K:=by
 subst hwn hdn
 have es:=B4u (B:=b64) (by decide) du dv hu hv h1 (by rw [hX,hY];exact hlt)
 rw [hX,hY] at es
 have gu:=K5 du (m+2)
 have gu1:=K5 du (m+1)
 have gv:=K5 dv (m+1)
 have v1r:=es.v1r
 have v2r:=es.v2r
 have u2r:=es.u2r
 have hv0:=es.V0
 have hU0:=es.U0
 refine Yk _ _ _ _ _ _ ?_
 unfold Yl
 have e1:B5 ((vs.length:Int)-1)=((m+1:Nat):Int):=by rw [B8 (by omega) (by omega)];omega
 have e2:B5 ((vs.length:Int)-2)=(m:Int):=by rw [B8 (by omega) (by omega)];omega
 have e3:((vs.length:Nat):Int)=((m+2:Nat):Int):=by omega
 rw [e1,e2,e3]
 refine sv.load (by omega) (by omega) (by omega) ?_
 refine sv.load (by omega) (by omega) (by omega) ?_
 refine su.load rfl (by omega) (by omega) ?_
 simp only [B8g]
 refine B7 (fun h2=>?_) (fun h2=>?_)
 ·have ht:=es.top (by
   have:vs.getD (m+1) 0*b64<=us.getD (m+2) 0*b64:=B8h h2 (by decide)
   omega)
  exact hK 18446744073709551615 (by omega) (by omega) ht.2 ht.1
 ·refine su.load rfl (by omega) (by omega) ?_
  refine su.load rfl (by omega) (by omega) ?_
  simp only [B8g]
  refine A6f (by omega) gu1 gv.2 ⟨_,_,rfl,B4 h,?_⟩
  generalize hT:us.getD (m+2) 0*b64+us.getD (m+1) 0=T at es
  have hT':us.getD (m+2) 0*18446744073709551616+us.getD (m+1) 0=T:=hT
  have hT0:0<=T:=es.top0
  have hin:=es.init
  have hdm:=B8n T (vs.getD (m+1) 0)
  have hm0:=B8y T (show vs.getD (m+1) 0≠0 by omega)
  have hm1:=B8t T (show 0<vs.getD (m+1) 0 by omega)
  have hq0:0<=T/vs.getD (m+1) 0:=B9c hT0 (by omega)
  have hq1:T/vs.getD (m+1) 0<18446744073709551616:=by
   apply B98 (by omega)
   have:(us.getD (m+2) 0+1)*18446744073709551616<=vs.getD (m+1) 0*18446744073709551616:=B8h (by omega) (by decide)
   have:=gu1.2
   have:18446744073709551616*vs.getD (m+1) 0=vs.getD (m+1) 0*18446744073709551616:=B8w _ _
   omega
  refine ⟨fun l h'=>∃ q r:Int,l=[U q,U r]/\h'=h/\(0<=q/\q<18446744073709551616)/\(0<=r/\r<18446744073709551616)/\q*vs.getD (m+1) 0+r=T/\X<(q+1)*Y,fun l _=>(iAt l 0).toNat,⟨_,_,rfl,rfl,⟨hq0,hq1⟩,by omega,by rw [B8w];exact hdm,hin⟩,?_⟩
  rintro q r hp ⟨q',r',hl2,rfl,hq,hr,hqr,hlt2⟩
  obtain ⟨rfl,rfl⟩:q=q'/\r=r':=by simpa using hl2
  have hm:0<=q*vs.getD m 0/\q*vs.getD m 0<=18446744073709551615*18446744073709551615:=⟨B8s hq.1 v2r.1,B9r (by omega) (by have:=(K5 dv m).2;omega) v2r.1 (by decide)⟩
  have key:q*(vs.getD (m+1) 0*b64+vs.getD m 0)=(T-r)*18446744073709551616+q*vs.getD m 0:=by
   rw [<- hqr];show q*(vs.getD (m+1) 0*(18446744073709551616:Int)+vs.getD m 0)=_;grind
  have pass:q*vs.getD m 0<=r*18446744073709551616+us.getD m 0->K (U q) hp:=by
   intro hp2
   refine hK q hq.1 hq.2 hlt2 (es.up (by show q<=(18446744073709551616:Int);omega) ?_)
   rw [key];show _<=T*(18446744073709551616:Int)+_;omega
  have fail:¬ (q*vs.getD m 0<=r*18446744073709551616+us.getD m 0)->Br (decide (C3 (r+vs.getD (m+1) 0)<vs.getD (m+1) 0)) (K (U (C3 (q-1))) hp) ((∃ q_1 r_1:Int,[U (C3 (q-1)),U (C3 (r+vs.getD (m+1) 0))]=[U q_1,U r_1]/\hp=hp/\(0<=q_1/\q_1<18446744073709551616)/\(0<=r_1/\r_1<18446744073709551616)/\q_1*vs.getD (m+1) 0+r_1=T/\X<(q_1+1)*Y)/\(iAt [U (C3 (q-1)),U (C3 (r+vs.getD (m+1) 0))] 0).toNat<(iAt [U q,U r] 0).toNat):=by
   intro hf
   have hlq:X<q*Y:=es.low hq.1 (by rw [key];show T*(18446744073709551616:Int)+_<_;omega)
   have hq1:1<=q:=by
    by_cases hc:1<=q
    ·exact hc
    ·have:q=0:=by omega
     subst this;omega
   have hlt':X<(q-1+1)*Y:=by rw [Int.sub_add_cancel];exact hlq
   have hqr':(q-1)*vs.getD (m+1) 0+(r+vs.getD (m+1) 0)=T:=by grind
   rw [C4 (n:=q-1) (by omega) (by omega)]
   refine B7 (fun h3=>?_) (fun h3=>?_)
   ·rw [F1] at h3
    have hb:(q-1)*vs.getD m 0<=18446744073709551616*vs.getD m 0:=B8h (by omega) v2r.1
    have key2:(q-1)*(vs.getD (m+1) 0*b64+vs.getD m 0)=(T-(r+vs.getD (m+1) 0))*18446744073709551616+(q-1)*vs.getD m 0:=by
     rw [<- hqr'];show (q-1)*(vs.getD (m+1) 0*(18446744073709551616:Int)+vs.getD m 0)=_;grind
    refine hK (q-1) (by omega) (by omega) hlt' (es.up (by show q-1<=(18446744073709551616:Int);omega) ?_)
    rw [key2]
    have:=v2r.2
    show _<=T*(18446744073709551616:Int)+_
    have:vs.getD m 0<18446744073709551616:=v2r.2
    omega
   ·have h3':r+vs.getD (m+1) 0<18446744073709551616:=by
     by_cases hc:r+vs.getD (m+1) 0<18446744073709551616
     ·exact hc
     ·rw [F1] at h3;have:=v1r.2;have:vs.getD (m+1) 0<18446744073709551616:=v1r.2;omega
    rw [C4 (n:=r+vs.getD (m+1) 0) (by omega) h3']
    exact ⟨⟨q-1,r+vs.getD (m+1) 0,rfl,rfl,by omega,by omega,hqr',hlt'⟩,by simp only [iAt,B8l];omega⟩
  refine Ij hq (by have:=v2r.2;exact ⟨v2r.1,this⟩) ⟨_,_,rfl,?_⟩
  have gum:0<=us.getD m 0/\us.getD m 0<18446744073709551616:=K5 du m
  refine B7 (fun h3=>pass (by omega)) (fun h3=>?_)
  refine D9 (fun h4=>?_) (fun h4=>fail (by omega))
  refine su.load rfl (by omega) (by omega) ?_
  rw [B8g]
  exact B7 (fun h5=>pass (by omega)) (fun h5=>fail (by omega))
end
section
variable {h g:Heap} {K:VP} {bu bq:Nat} {pre qs:List Int} {VA:Option Addr} {vs:List Int}
theorem B5b{n N:Nat}{ws:List Int}{q:Int}{J:LP}(hu:g bu=none)(hq:g bq=none)(hne:bu≠bq)(sv:SlI .u64 g VA vs)(dv:Dig b64 vs)(hn:n=vs.length)(dw:Dig b64 ws)(hN:N=(pre++ws).length)(hl:n<ws.length)(hbig:N<=4000000000)
 (hD:val b64 (ws.take n)+val b64 vs<2*b64^n) (hD0:b64^n<=val b64 (ws.take n)+val b64 vs) (htop:ws.getD n 0=18446744073709551615)
 (hJ:∀ ws',ws'.length=ws.length->Dig b64 ws'->ws'.drop (n+1)=ws.drop (n+1)->ws'.getD n 0=0->val b64 (ws'.take n)=val b64 (ws.take n)+val b64 vs-b64^n->J [U (C3 (q-1))] (Jb .u64 B9 g bu (pre++ws') bq qs)):
 U8 prog n VA n (some ⟨bu,0,none⟩) N (pre.length:Int) q J (Jb .u64 B9 g bu (pre++ws) bq qs):=by
 unfold U8
 refine ⟨fun l h'=>∃ (k:Nat) (c:Int) (zs:List Int),l=[U c,I k]/\k<=n/\zs.length=ws.length/\Dig b64 zs/\(0<=c/\c<=1)/\h'=Jb .u64 B9 g bu (pre++zs) bq qs/\zs.drop k=ws.drop k/\val b64 (zs.take k)+c*b64^k=val b64 (ws.take k)+val b64 (vs.take k),fun l _=>n-(iAt l 1).toNat,⟨0,0,ws,rfl,by omega,rfl,dw,by omega,rfl,rfl,by simp [val]⟩,?_⟩
 rintro c i hp ⟨k,c',zs,hli,hk,hzl,hd,hc,rfl,hdr,hv⟩
 obtain ⟨rfl,rfl⟩:c=c'/\i=(k:Int):=by simpa using hli
 have hle:g.le (Jb .u64 B9 g bu (pre++zs) bq qs):=A6s hu hq hne
 have su:SlI .u64 (Jb .u64 B9 g bu (pre++zs) bq qs) (some ⟨bu,0,none⟩) (pre++zs):=A6r hne
 have hNz:N=(pre++zs).length:=by rw [hN,B8r,B8r,hzl]
 have hNl:N=pre.length+zs.length:=by rw [hNz,B8r]
 have ejk:B5 ((pre.length:Int)+k)=((k+pre.length:Nat):Int):=by rw [B8 (by omega) (by omega)];omega
 have ejn:B5 ((pre.length:Int)+n)=((n+pre.length:Nat):Int):=by rw [B8 (by omega) (by omega)];omega
 refine B7 (fun h1=>?_) (fun h1=>?_)
 ·have gv:=K5 dv k
  have gz:=K5 hd k
  have hzz:=G7 hdr
  have vv:=C7 b64 vs k
  have vw:=C7 b64 ws k
  rw [ejk]
  refine (sv.mono hle).load hn (by omega) (by omega) ?_
  refine su.load hNz (by omega) (by omega) ?_
  simp only [B8g,Ui]
  refine Ao gz gv hc ⟨_,_,rfl,?_⟩
  refine ⟨_,rfl,by omega,by omega,?_⟩
  have st:=Hi (P:=prog) (t:=B9) (k:=.u64) (e:=B9) (g:=g) (bu:=bu) (bq:=bq) (us:=pre++zs) (qs:=qs) (i:=((k+pre.length:Nat):Int)) (n:=(zs.getD k 0+vs.getD k 0+c)%18446744073709551616) D8 hne (by rw [B8g];omega)
   (K:=fun _ hp15=>(∃ (k_1:Nat) (c_1:Int) (zs_1:List Int),[U ((zs.getD k 0+vs.getD k 0+c)/18446744073709551616),I (B5 ((k:Int)+1))]=[U c_1,I k_1]/\k_1<=n/\zs_1.length=ws.length/\Dig b64 zs_1/\(0<=c_1/\c_1<=1)/\hp15=Jb .u64 B9 g bu (pre++zs_1) bq qs/\zs_1.drop k_1=ws.drop k_1/\val b64 (zs_1.take k_1)+c_1*b64^k_1=val b64 (ws.take k_1)+val b64 (vs.take k_1))/\n-(iAt [U ((zs.getD k 0+vs.getD k 0+c)/18446744073709551616),I (B5 ((k:Int)+1))] 1).toNat<n-(iAt [U c,I k] 1).toNat)
  rw [B8g] at st
  refine st ?_
  rw [Zw,B8 (n:=(k:Int)+1) (by omega) (by omega)]
  refine ⟨⟨k+1,_,zs.set k ((zs.getD k 0+vs.getD k 0+c)%18446744073709551616),rfl,by omega,by simpa using hzl,hd.set (Bo _),by omega,rfl,?_,?_⟩,by simp only [iAt,B8l,B8v];omega⟩
  ·rw [E5 (by omega)];exact E9 hdr
  ·rw [D5 (by omega),G0,B8j,B8m (by omega),B94,Kq,vv,vw,<- hzz]
   grind
 ·have hkn:k=n:=by omega
  subst hkn
  have hzz:=G7 hdr
  rw [ejn]
  refine su.load hNz (by omega) (by omega) ?_
  rw [B8g,Ui,hzz,htop]
  refine ⟨_,rfl,by omega,by omega,?_⟩
  have hvs:vs.take k=vs:=by rw [hn,B8x]
  rw [hvs] at hv
  have hlt:=M0 (by decide) (hd.take k)
  rw [B8j,B8m (by omega)] at hlt
  have h0:=C5 (by decide) (hd.take k)
  have hc1:c=1:=by
   by_cases hc0:c=0
   ·subst hc0;omega
   ·omega
  subst hc1
  have e0:C3 (18446744073709551615+1)=0:=by rw [F1];omega
  rw [e0]
  have st:=Hi (P:=prog) (t:=B9) (k:=.u64) (e:=B9) (g:=g) (bu:=bu) (bq:=bq) (us:=pre++zs) (qs:=qs) (i:=((k+pre.length:Nat):Int)) (n:=0) D8 hne (by rw [B8g];omega) (K:=fun _ hp16=>J [U (C3 (q-1))] hp16)
  rw [B8g] at st
  refine st ?_
  rw [Zw]
  refine hJ (zs.set k 0) (by simpa using hzl) (hd.set (by decide)) (by rw [E5 (by omega)];exact E9 hdr) (by simp [B9p,show k<zs.length by omega]) ?_
  rw [List.take_set_of_le (by omega)]
  omega
end
theorem A8b{g h':Heap}{e:TypeId}{bu bq:Nat}{A:Option Addr}{us qs:List Int}(hne:bu≠bq)(w:Win .u64 h' (blk .u64 e g bq qs) bu e A [] us []):h'=Jb .u64 e g bu us bq qs:=by
 rw [Et hne,w.eq]
 simp [blk]
theorem A9m{g:Heap}{e:TypeId}{bu bq:Nat}{us qs:List Int}(hu:g bu=none)(hne:bu≠bq):Win .u64 (Jb .u64 e g bu us bq qs) (blk .u64 e g bq qs) bu e (some ⟨bu,0,none⟩) [] us []:=by
 rw [Et hne]
 refine Win.blk .u64 e ?_ us
 unfold blk;rw [B6 _ _ hne];exact hu
theorem Xy{P:Program}{t:TypeId}{k:IntKind}{e:TypeId}{g:Heap}{bu bq:Nat}{us qs:List Int}(one:P.cellsOf t=1/\(P.info? t).isSome=true)(hne:bu≠bq){n:Int}{i:Nat}(hi:i<us.length){K:Unit->Heap->Prop}
 (x:K () (Jb k e g bu (us.set i n) bq qs)):wpH P (B9s t (.pointer (some (Addr.add ⟨bu,0,none⟩ (i*1)))) (.int k n)) K (Jb k e g bu us bq qs):=by
 have:=Hi (P:=P) (t:=t) (k:=k) (e:=e) (g:=g) (bu:=bu) (bq:=bq) (us:=us) (qs:=qs) (i:=(i:Int)) (n:=n) (K:=K) one hne (by simpa using hi) (by simpa using x)
 simpa using this
theorem Xz{P:Program}{t:TypeId}{k:IntKind}{e:TypeId}{g:Heap}{bu bq:Nat}{us qs:List Int}(one:P.cellsOf t=1/\(P.info? t).isSome=true){n:Int}{i:Nat}(hi:i<qs.length){K:Unit->Heap->Prop}
 (x:K () (Jb k e g bu us bq (qs.set i n))):wpH P (B9s t (.pointer (some (Addr.add ⟨bq,0,none⟩ (i*1)))) (.int k n)) K (Jb k e g bu us bq qs):=by
 have:=A0q (P:=P) (t:=t) (k:=k) (e:=e) (g:=g) (bu:=bu) (bq:=bq) (us:=us) (qs:=qs) (i:=(i:Int)) (n:=n) (K:=K) one (by simpa using hi) (by simpa using x)
 simpa using this
section
variable {h g:Heap} {K:VP} {bu bq:Nat} {VA:Option Addr} {vs us0:List Int}
set_option maxHeartbeats 1000000 in
theorem Zv{s mm N nq vc xn:Nat}{a b Y:Int}(hu:g bu=none)(hq:g bq=none)(hne:bu≠bq)(sv:SlI .u64 g VA vs)(dv:Dig b64 vs)(hn:vs.length=mm+2)(hv1:b64<=2*vs.getD (mm+1) 0)(hs:s<64)(hY:val b64 vs=Y)(hYb:Y=b*2^s)(du:Dig b64 us0)(hN:us0.length=N)(hua:val b64 us0=a*2^s)(hxn:N=xn+1)(hnq:N=nq+(mm+2))(hnq1:1<=nq)(hbig:N<=1000000001)(htop:val b64 (us0.drop nq)<Y)
 (hK:∀ A1 m1 c1 A2 m2 c2 h',g.le h'->m1<=c1->m2<=c2->Mw h' A1 m1 (a/b)->Mw h' A2 m2 (a%b)->K (.tuple #[.slice A1 m1 c1,.slice A2 m2 c2]) h'):
 U9 prog xn (mm+2) K (s:Int) VA (mm+2) vc (some ⟨bu,0,none⟩) N N (some ⟨bq,0,none⟩) nq nq (Jb .u64 B9 g bu us0 bq (B8i nq 0)):=by
 have hp:0<(2:Int)^s:=B9a (by decide)
 have hYlt:Y<b64^(mm+2):=by rw [<- hY,<- hn];exact M0 (by decide) dv
 have hY0:0<Y:=by have:=C5 (by decide) (du.drop nq);omega
 have e0:B5 ((xn:Int)-((mm+2:Nat):Int))=(nq:Int)-1:=by rw [B8 (by omega) (by omega)];omega
 unfold U9
 refine ⟨fun l h'=>∃ (k:Nat) (us qs:List Int),l=[I ((k:Int)-1)]/\k<=nq/\us.length=N/\qs.length=nq/\Dig b64 us/\Dig b64 qs/\h'=Jb .u64 B9 g bu us bq qs/\val b64 (us.drop k)<Y/\val b64 us0=val b64 (qs.drop k)*Y*b64^k+val b64 us,fun l _=>(iAt l 0+1).toNat,⟨nq,us0,_,by rw [e0],by omega,hN,by simp,du,K6 (by decide) _,rfl,htop,by simp [val]⟩,?_⟩
 rintro j hp11 ⟨k,us,qs,hli,hk,hul,hql,hdu,hdq,rfl,hlt,hv⟩
 obtain rfl:j=(k:Int)-1:=by simpa using hli
 have hle:g.le (Jb .u64 B9 g bu us bq qs):=A6s hu hq hne
 have su:SlI .u64 (Jb .u64 B9 g bu us bq qs) (some ⟨bu,0,none⟩) us:=A6r hne
 unfold Dj
 refine B7 (fun h1=>?_) (fun h1=>?_)
 ·obtain ⟨j,rfl⟩:∃ j,k=j+1:=⟨k-1,by omega⟩
  have ej:((j+1:Nat):Int)-1=(j:Int):=by omega
  rw [ej]
  have e1:B5 ((j:Int)+((mm+2:Nat):Int))=((j+(mm+2):Nat):Int):=by rw [B8 (by omega) (by omega)];omega
  have e2:B5 (((j+(mm+2):Nat):Int)+1)=((j+(mm+3):Nat):Int):=by rw [B8 (by omega) (by omega)];omega
  simp only [e1,e2,B8g]
  have dws:=hdu.drop j
  have hwl:(us.drop j).length=N-j:=by rw [B8p,hul]
  have hzero:val b64 ((us.drop j).drop (mm+3))=0:=by
   have:=Qp (B:=b64) (by decide) (n:=mm+2) (hdu.drop (j+1)) (by omega)
   rw [B9k] at this ⊢
   rw [show j+(mm+3)=j+1+(mm+2) by omega];exact this
  have hX1:=A47 b64 us j
  have hXB:val b64 (us.drop j)<Y*b64:=by
   have hdj:=K5 hdu j
   rw [hX1]
   have t1:b64*(val b64 (us.drop (j+1))+1)<=b64*Y:=B8k (by omega) (by decide)
   have t2:b64*(val b64 (us.drop (j+1))+1)=b64*val b64 (us.drop (j+1))+18446744073709551616:=by show (18446744073709551616:Int)*_=_;grind
   have t3:Y*b64=b64*Y:=B8w _ _
   omega
  have hsp:=G2 b64 (us.drop j) (i:=mm+3) (by omega)
  rw [hzero,C04,C05] at hsp
  have hts:=I5 b64 (us.drop j) (mm+2)
  have hX:val b64 (us.drop j)=val b64 ((us.drop j).take (mm+2))+b64^(mm+2)*(us.drop j).getD (mm+2) 0:=by rw [hsp];exact hts
  refine ⟨⟨by omega,by omega⟩,⟨by omega,by omega⟩,?_⟩
  have sw:SlI .u64 (Jb .u64 B9 g bu us bq qs) (J1 (some ⟨bu,0,none⟩) N j 1) ((us.drop j).take (mm+3)):=by
   have:=su.cut (c:=N) (l:=j) (m:=j+(mm+3)) (by omega) (by omega) (by omega)
   rwa [show j+(mm+3)-j=mm+3 by omega] at this
  generalize hXX:val b64 (us.drop j)=X at *
  refine Uw (m:=mm) (X:=X) (Y:=Y) sw (sv.mono hle) (by rw [B8j,hwl];omega) hn.symm (dws.take _) dv (by rw [B8j,hwl];omega) hn (by omega) hv1 hsp.symm hY hXB ?_
  intro q q0 q1 q2 q3
  refine ⟨_,rfl,⟨by omega,by omega⟩,⟨by omega,by omega⟩,?_⟩
  have w0:=A9m (e:=B9) (us:=us) (qs:=qs) hu hne
  have svq:SlI .u64 (blk .u64 B9 g bq qs) VA vs:=sv.mono (Ja hq qs)
  have hW:(us.drop j).take (j+(mm+2)-j)=(us.drop j).take (mm+2):=by rw [show j+(mm+2)-j=mm+2 by omega]
  have w1:=w0.sub (l:=j) (m:=j+(mm+2)) (c:=N) (by omega) (by omega) (by omega)
  rw [hW] at w1
  have hWl:((us.drop j).take (mm+2)).length=mm+2:=by rw [B8j,hwl];omega
  refine Gd w1 (by rw [hWl];omega) svq hn.symm (dws.take _) dv (by rw [hWl,hn]) ⟨q0,q1⟩ (by omega) ?_
  intro W c h2 hWl2 hWd hc hWv w2
  rw [hWl] at hWl2 hWv
  refine ⟨_,rfl,?_⟩
  have w3:=w0.whole (l:=j) (m:=j+(mm+2)) (by omega) (by omega) (by omega) w2
  have h2e:=A8b hne w3
  have hpre:(us.take j).length=j:=by rw [B8j,hul];omega
  have hd3:us.drop (j+(mm+2))=(us.drop j).drop (mm+2):=by rw [B9k]
  rw [B97,hd3] at h2e
  subst h2e
  generalize hws:us.drop j=ws at *
  have hwsl:(W++ws.drop (mm+2)).length=ws.length:=by rw [B8r,B8p];omega
  have dW:Dig b64 (W++ws.drop (mm+2)):=hWd.append (dws.drop _)
  have gtop:(W++ws.drop (mm+2)).getD (mm+2) 0=ws.getD (mm+2) 0:=by
   simp only [B9p]
   rw [C0c (by omega),hWl2,Nat.sub_self,List.getElem?_drop,C03]
  have gt64:=K5 dws (mm+2)
  have hNl:(us.take j++(W++ws.drop (mm+2))).length=N:=by rw [B8r,hwsl,hpre];omega
  have su2:SlI .u64 (Jb .u64 B9 g bu (us.take j++(W++ws.drop (mm+2))) bq qs) (some ⟨bu,0,none⟩) (us.take j++(W++ws.drop (mm+2))):=A6r hne
  have hj2:j+(mm+2)=(mm+2)+(us.take j).length:=by omega
  refine su2.load hNl.symm (by omega) (by omega) ?_
  rw [B8g,hj2,Ui,gtop]
  refine ⟨_,rfl,by omega,by omega,?_⟩
  refine Xy (i:=mm+2+(us.take j).length) D8 hne (by omega) ?_
  rw [Zw]
  have hP:0<b64^(mm+2):=D4 (by decide) _
  have hlW:=M0 (by decide) hWd
  have hlW0:=C5 (by decide) hWd
  rw [hWl2] at hlW
  rw [hY] at hWv
  have hD:X-q*Y=val b64 W+(ws.getD (mm+2) 0-c)*b64^(mm+2):=by rw [hWv,hX];grind
  have hDlt:X-q*Y<Y:=by
   have:(q+1)*Y=q*Y+Y:=by grind
   omega
  have hDge: -Y<=X-q*Y:=by
   have:(q-1)*Y=q*Y-Y:=by grind
   omega
  have hX0:0<=X:=by
   have t1:=C5 (by decide) (dws.take (mm+2))
   have t2:=B8s (B8q hP) gt64.1
   omega
  have hdel:ws.getD (mm+2) 0-c=0\/ws.getD (mm+2) 0-c= -1:=by
   have t2:ws.getD (mm+2) 0-c<1:=by
    by_cases hc:ws.getD (mm+2) 0-c<1
    ·exact hc
    ·have:=B8h (show 1<=ws.getD (mm+2) 0-c by omega) (B8q hP);omega
   have t3: -2<ws.getD (mm+2) 0-c:=by
    by_cases hc: -2<ws.getD (mm+2) 0-c
    ·exact hc
    ·have:=B8h (show ws.getD (mm+2) 0-c <= -2 by omega) (B8q hP);omega
   omega
  have htk:∀ v,((W++ws.drop (mm+2)).set (mm+2) v).take (mm+2)=W:=by
   intro v
   rw [List.take_set_of_le (by omega),B9n hWl2]
  have hgs:∀ v,((W++ws.drop (mm+2)).set (mm+2) v).getD (mm+2) 0=v:=by
   intro v
   rw [B9p,List.getElem?_set_self (by omega)];rfl
  have hdr:∀ v,((W++ws.drop (mm+2)).set (mm+2) v).drop (mm+3)=ws.drop (mm+3):=by
   intro v
   rw [E5 (by omega),show mm+3=(mm+2)+1 by omega,<- B9k,B9z hWl2,B9k]
  refine ⟨fun l h'=>∃ ws' q',l=[U q']/\h'=Jb .u64 B9 g bu (us.take j++ws') bq qs/\ws'.length=ws.length/\Dig b64 ws'/\ws'.drop (mm+3)=ws.drop (mm+3)/\ws'.getD (mm+2) 0=0/\val b64 (ws'.take (mm+2))=X-q'*Y/\0<=X-q'*Y/\X-q'*Y<Y/\0<=q'/\q'<18446744073709551616,B7 (fun h3=>?_) (fun h3=>?_),?_⟩
  ·have hdel1:ws.getD (mm+2) 0-c= -1:=by omega
   rw [hdel1] at hD ⊢
   have hm1:C3 (-1)=18446744073709551615:=by rw [F1];omega
   rw [hm1]
   have hqpos:1<=q:=by
    by_cases hc:1<=q
    ·exact hc
    ·have:q=0:=by omega
     subst this;omega
   have e5:(q-1)*Y=q*Y-Y:=by grind
   have bk:=B5b (g:=g) (bu:=bu) (bq:=bq) (pre:=us.take j) (qs:=qs) (VA:=VA) (vs:=vs) (n:=mm+2) (N:=N) (ws:=(W++ws.drop (mm+2)).set (mm+2) 18446744073709551615) (q:=q)
    (J:=fun l h'=>∃ ws' q',l=[U q']/\h'=Jb .u64 B9 g bu (us.take j++ws') bq qs/\ws'.length=ws.length/\Dig b64 ws'/\ws'.drop (mm+3)=ws.drop (mm+3)/\ws'.getD (mm+2) 0=0/\val b64 (ws'.take (mm+2))=X-q'*Y/\0<=X-q'*Y/\X-q'*Y<Y/\0<=q'/\q'<18446744073709551616)
    hu hq hne sv dv hn.symm (dW.set (by decide)) (by rw [B8r,B95,hwsl,hpre];omega) (by rw [B95,hwsl];omega) (by omega) (by rw [htk,hY];omega) (by rw [htk,hY];omega) (hgs _) ?_
   ·rw [hpre] at bk;exact bk
   ·intro ws' g1 g2 g3 g4 g5
    rw [htk,hY] at g5
    rw [C4 (n:=q-1) (by omega) (by omega)]
    refine ⟨ws',q-1,rfl,rfl,by rw [g1,B95,hwsl],g2,by rw [g3,hdr],g4,by omega,by omega,by omega,by omega,by omega⟩
  ·have hdel0:ws.getD (mm+2) 0-c=0:=by omega
   rw [hdel0] at hD ⊢
   have hm0:C3 0=0:=by rw [F1];omega
   rw [hm0]
   exact ⟨(W++ws.drop (mm+2)).set (mm+2) 0,q,rfl,rfl,by rw [B95,hwsl],dW.set (by decide),hdr _,hgs _,by rw [htk];omega,by omega,hDlt,q0,q1⟩
  ·rintro q4 hp17 ⟨ws',q',hl1,rfl,g1,g2,g3,g4,g5,g6,g7,g8,g9⟩
   obtain rfl:q4=q':=by simpa using hl1
   refine ⟨_,rfl,by omega,by omega,?_⟩
   refine Xz (i:=j) D8 (by omega) ?_
   rw [B8 (by omega) (by omega)]
   have hvw:val b64 ws'=X-q4*Y:=by
    have z1:=G2 b64 ws' (i:=mm+3) (by omega)
    rw [g3,hzero,I5,g4,g5] at z1
    simp at z1
    omega
   refine ⟨⟨j,us.take j++ws',qs.set j q4,rfl,by omega,by rw [B8r,g1,hpre];omega,by simpa using hql,(hdu.take j).append g2,hdq.set ⟨g8,g9⟩,rfl,?_,?_⟩,by simp only [iAt,B8l];omega⟩
   ·rw [B9z hpre,hvw];exact g7
   ·have hs2:=G2 b64 us (i:=j) (by omega)
    rw [hws,hXX] at hs2
    rw [hv,Cz (by omega),E7,hpre,hvw,hs2,B94]
    simp only [val]
    grind
 ·have hk0:k=0:=by omega
  subst hk0
  simp at hlt hv
  have hb0:0<b:=by
   by_cases hc:0<b
   ·exact hc
   ·have:=B8h (show b<=0 by omega) (B8q hp);omega
  have hus0:=C5 (by decide) hdu
  have hR:val b64 us=(a-val b64 qs*b)*2^s:=by
   rw [hua,hYb] at hv
   grind
  have hr0:0<=a-val b64 qs*b:=by
   by_cases hc:0<=a-val b64 qs*b
   ·exact hc
   ·have:=B8h (show a-val b64 qs*b <= -1 by omega) (B8q hp);omega
  have hr1:a-val b64 qs*b<b:=by
   by_cases hc:a-val b64 qs*b<b
   ·exact hc
   ·have:=B8h (show b<=a-val b64 qs*b by omega) (B8q hp);omega
  have hdiv:a/b=val b64 qs:=by
   have:a=(a-val b64 qs*b)+val b64 qs*b:=by omega
   rw [this,B9u _ _ (by omega),B99 hr0 hr1,B9q]
  have hmod:a%b=a-val b64 qs*b:=by
   have:=Int.emod_def a b
   rw [this,hdiv,B8w]
  rw [hdiv,hmod] at hK
  rw [<- hql]
  refine L9 B5a hdq (B92 _) (by omega) ?_
  intro m1 hm1 M1
  refine ⟨_,_,_,rfl,?_⟩
  rw [<- hul]
  refine L9 su hdu (B92 _) (by omega) ?_
  intro m2 hm2 M2
  refine ⟨_,_,_,rfl,?_⟩
  rw [C4 (by omega) (by omega)]
  refine De M2 (by have:=M2.len_le (by decide) (j:=mm+2) (by omega);omega) (by omega) ?_
  intro A3 m3 c3 h3 l3 k3 M3
  have hsh:val b64 us/2^s=a-val b64 qs*b:=by rw [hR,Int.mul_ediv_cancel _ (by omega)]
  rw [hsh] at M3
  exact ⟨_,_,_,rfl,hK _ _ _ _ _ _ _ (B0 hle l3) (by omega) k3 (M1.mono l3) M3⟩
end
section
variable {h g:Heap} {K:VP} {A B:Option Addr} {ac bc:Nat}
set_option maxHeartbeats 1000000 in
theorem Bs{x y:Int}{an bn:Nat}(ma:Mw h A an x)(mb:Mw h B bn y)(ha:an<=ac)(hbc:bn<=bc)(hy:y≠0)(hl:an<=1000000000)(hl2:bn<=1000000000)
 (hK:∀ A1 m1 c1 A2 m2 c2 h',h.le h'->m1<=c1->m2<=c2->Mw h' A1 m1 (x/y)->Mw h' A2 m2 (x%y)->K (.tuple #[.slice A1 m1 c1,.slice A2 m2 c2]) h'):FCall prog G8 #[.slice A an ac,.slice B bn bc] h K:=by
 have hx0:=ma.nonneg (by decide)
 have hy0:=mb.nonneg (by decide)
 have hb0:=mb.len_zero (by decide)
 have ha1:=ma.lt (by decide)
 have hb1:=mb.lt (by decide)
 refine Mi _ _ _ _ _ _ ?_
 unfold Jg
 refine I8 ma mb (by omega) ⟨_,rfl,B7 (fun h1=>?_) (fun h1=>D9 (fun h2=>?_) (fun h2=>?_))⟩
 ·have hlt:x<y:=by
   unfold Qn at h1
   by_cases hc:x<y
   ·exact hc
   ·rw [if_neg hc] at h1
    by_cases hc2:x>y
    ·rw [if_pos hc2] at h1;omega
    ·rw [if_neg hc2] at h1;omega
  rw [B99 hx0 hlt,C02 hx0 hlt] at hK
  exact hK none 0 0 _ _ _ _ (B4 h) (B92 _) ha Mag.zero ma
 ·obtain ⟨ys,rfl,sy,dy,ny,rfl⟩:=mb
  have h2':ys.length=1:=by omega
  obtain ⟨d,rfl⟩:∃ d,ys=[d]:=by
   cases ys with
   | nil=>simp at h2'
   | cons d r=>
    cases r with
    | nil=>exact ⟨d,rfl⟩
    | cons _ _=>simp at h2'
  rw [Ce] at hy hy0 hK
  have hd:=dy d (by simp)
  obtain ⟨w,rfl⟩:∃ w:Nat,d=w:=⟨d.toNat,by omega⟩
  refine sy.load rfl (by omega) (by simp) ?_
  show FCall _ _ #[_,U (w:Int)] _ _
  have hw:w<18446744073709551616:=by have:=hd.2;have:(w:Int)<18446744073709551616:=this;omega
  refine Pf ma ⟨by omega,hw⟩ hl ?_
  intro A' m c' h' hle hm hmn hM
  refine ⟨_,_,_,_,rfl,?_⟩
  refine W6 ⟨B8y _ (by omega),by have:=B8t x (show (0:Int)<w by omega);omega⟩ ?_
  intro A2 m2 c2 h3 l3 k3 M3
  exact ⟨_,_,_,rfl,hK _ _ _ _ _ _ _ (B0 hle l3) hm k3 (hM.mono l3) M3⟩
 ·have hge:y<=x:=by
   unfold Qn at h1
   by_cases hc:x<y
   ·rw [if_pos hc] at h1;omega
   ·omega
  have hbn:bn<=an:=mb.len_le (by decide) (C01 hge ha1)
  have mb':=mb
  have ma':=ma
  obtain ⟨ys,rfl,sy,dy,ny,rfl⟩:=mb
  obtain ⟨mm,hmm⟩:∃ mm,ys.length=mm+2:=⟨ys.length-2,by omega⟩
  have gt:=K5 dy (mm+1)
  have ht0:=A4f (m:=mm+1) hmm ny
  obtain ⟨hyt,hyt2⟩:=Fm (B:=b64) (by decide) dy (m:=mm+1) hmm
  have e1:B5 ((ys.length:Int)-1)=((mm+1:Nat):Int):=by rw [B8 (by omega) (by omega)];omega
  rw [e1]
  refine sy.load rfl (by omega) (by omega) ?_
  rw [B8g]
  obtain ⟨t,ht⟩:∃ t:Nat,ys.getD (mm+1) 0=t:=⟨(ys.getD (mm+1) 0).toNat,by omega⟩
  rw [ht] at gt ht0 hyt hyt2 ⊢
  have ht0':t≠0:=by omega
  refine N9 (by omega) ⟨_,rfl,?_⟩
  obtain ⟨hb1',hb2'⟩:=Eu ht0'
  have hb64:O7 t<=64:=Hj (k:=64) (by omega)
  have hbb0:1<=O7 t:=by unfold O7;rw [if_neg ht0'];omega
  obtain ⟨s,hs⟩:∃ s,s=64-O7 t:=⟨_,rfl⟩
  rw [<- hs]
  have hs64:s<64:=by omega
  have hps:0<(2:Int)^s:=B9a (by decide)
  have hsp:=T7 (s:=s) (by omega)
  have hblen:O7 t=64-s:=by omega
  have htl:(t:Int)+1<=2^(64-s):=by
   rw [<- hblen]
   have:((t+1:Nat):Int)<=((2^O7 t:Nat):Int):=by omega
   simpa using this
  have htg:(2:Int)^(63-s)<=t:=by
   have:((2^(O7 t-1):Nat):Int)<=((t:Nat):Int):=by omega
   rw [show O7 t-1=63-s by omega] at this
   simpa using this
  have hp63:(2:Int)^s*2^(63-s)=9223372036854775808:=by
   rw [<- B93,show s+(63-s)=63 by omega];decide
  have es0:C3 (s:Int)=(s:Int):=C4 (by omega) (by omega)
  rw [es0]
  have hpm:=D4 (B:=b64) (by decide) (mm+1)
  have hY1:val b64 ys*2^s<b64^(mm+2):=by
   have t2:val b64 ys*2^s<((t:Int)+1)*b64^(mm+1)*2^s:=B9h hyt hps
   have t3:((t:Int)+1)*b64^(mm+1)*2^s=((t:Int)+1)*2^s*b64^(mm+1):=by grind
   have t4:((t:Int)+1)*2^s*b64^(mm+1)<=18446744073709551616*b64^(mm+1):=by
    apply B8h _ (B8q hpm)
    rw [<- hsp,B8w (2^s)]
    exact B8h htl (B8q hps)
   have t5:b64^(mm+2)=18446744073709551616*b64^(mm+1):=by rw [B94 b64 (mm+1),B8w]
   omega
  have hY2:9223372036854775808*b64^(mm+1)<=val b64 ys*2^s:=by
   have t1:(t:Int)*b64^(mm+1)*2^s<=val b64 ys*2^s:=B8h hyt2 (B8q hps)
   have t2:9223372036854775808*b64^(mm+1)<=(t:Int)*2^s*b64^(mm+1):=by
    apply B8h _ (B8q hpm)
    rw [<- hp63,B8w (t:Int)]
    exact B8k htg (by omega)
   have t3:(t:Int)*2^s*b64^(mm+1)=(t:Int)*b64^(mm+1)*2^s:=by grind
   omega
  refine P9 mb' hbc hl2 (by omega) ?_
  intro A1 n1 c1 g1 l1 k1 M1
  refine ⟨_,_,_,rfl,?_⟩
  have hn1:n1=mm+2:=by
   have q1:=M1.len_le (by decide) hY1
   have q2:=M1.lt (by decide)
   by_cases hc:n1=mm+2
   ·exact hc
   ·have:=D0 (B:=b64) (by decide) (show n1<=mm+1 by omega)
    omega
  subst hn1
  obtain ⟨vs,hvl,sv,dv,nv,hvv⟩:=M1
  have hv1:b64<=2*vs.getD (mm+1) 0:=by
   obtain ⟨q1,q2⟩:=Fm (B:=b64) (by decide) dv (m:=mm+1) hvl.symm
   rw [hvv] at q1
   have:9223372036854775808<vs.getD (mm+1) 0+1:=by
    by_cases hc:9223372036854775808<vs.getD (mm+1) 0+1
    ·exact hc
    ·have:=B8h (show vs.getD (mm+1) 0+1<=9223372036854775808 by omega) (B8q hpm);omega
   show (18446744073709551616:Int)<=_
   omega
  have eN:B5 ((an:Int)+1)=((an+1:Nat):Int):=by rw [B8 (by omega) (by omega)];omega
  rw [eN]
  refine O3 L0 (by omega) (by omega) (by omega) ?_
  intro bu hbu
  rw [B8g]
  refine ⟨_,_,_,rfl,?_⟩
  have w0:=Win.blk .u64 B9 hbu (B8i (an+1) 0)
  refine w0.call ?_
  refine P9 (ma'.mono l1) ha hl (by omega) ?_
  intro A3 n3 c3 g3 l3 k3 M3 h4 w4
  refine ⟨_,_,_,rfl,?_⟩
  have hxs:x*2^s<b64^(an+1):=by
   have t1:x*2^s<b64^an*2^s:=B9h ha1 hps
   have t2:b64^an*2^s<=b64^an*18446744073709551616:=by
    apply B8k _ (B8q (D4 (by decide) an))
    have:=D0 (B:=2) (by decide) (show s<=64 by omega)
    have e:(2:Int)^64=18446744073709551616:=by decide
    omega
   rw [B94];show _<b64^an*(18446744073709551616:Int);omega
  have hn3:=M3.len_le (by decide) hxs
  obtain ⟨us,hul,sus,dus,nus,husv⟩:=M3
  refine Da L0 w4 (by simp) (sus.mono w4.le) hul (by simp;omega) ?_
  intro h5 w5
  refine ⟨_,rfl,?_⟩
  rw [B90] at w5
  generalize hu0:us++B8i (an+1-us.length) (0:Int)=us0 at w5
  have hu0l:us0.length=an+1:=by rw [<- hu0];simp;omega
  have hu0d:Dig b64 us0:=by rw [<- hu0];exact dus.append (K6 (by decide) _)
  have hu0v:val b64 us0=x*2^s:=by rw [<- hu0,Ae];exact husv
  obtain ⟨nq,hnq⟩:∃ nq,an+1=nq+(mm+2):=⟨an+1-(mm+2),by omega⟩
  have eq:B5 (B5 ((an:Int)-(ys.length:Int))+1)=(nq:Int):=by
   rw [B8 (n:=(an:Int)-(ys.length:Int)) (by omega) (by omega),B8 (by omega) (by omega)];omega
  rw [eq]
  refine O3 L0 (by omega) (by omega) (by omega) ?_
  intro bq hbq
  rw [B8g]
  refine ⟨_,_,_,rfl,?_⟩
  have h5e:h5=blk .u64 B9 g3 bu us0:=by rw [w5.eq];simp [blk]
  subst h5e
  have hg3u:g3 bu=none:=w5.free
  have hne:bu≠bq:=by
   rintro rfl
   unfold blk at hbq
   rw [C1] at hbq;cases hbq
  have hbq':g3 bq=none:=by
   have:=hbq
   unfold blk at this
   rwa [B6 _ _ hne.symm] at this
  rw [hmm]
  refine Zv (us0:=us0) (N:=an+1) (xn:=an) hg3u hbq' hne (sv.mono l3) dv hvl.symm hv1 hs64 hvv rfl hu0d hu0l hu0v rfl hnq (by omega) (by omega) ?_ ?_
  ·have s1:=G2 b64 us0 (i:=nq) (by omega)
   have s2:=C5 (by decide) (hu0d.take nq)
   have s3:val b64 us0<b64^an*2^s:=by
    rw [hu0v];exact B9h ha1 hps
   have s4:b64^(mm+1)<=val b64 ys:=by
    have:=B8h (show 1<=(t:Int) by omega) (B8q hpm);omega
   have s5:b64^nq*(b64^(mm+1)*2^s)<=b64^nq*(val b64 ys*2^s):=B8k (B8h s4 (B8q hps)) (B8q (D4 (by decide) nq))
   have s6:b64^nq*(b64^(mm+1)*2^s)=b64^an*2^s:=by
    rw [<- B9m,<- B93,show nq+(mm+1)=an by omega]
   by_cases hc:val b64 (us0.drop nq)<val b64 ys*2^s
   ·exact hc
   ·have:=B8k (show val b64 ys*2^s<=val b64 (us0.drop nq) by omega) (B8q (D4 (B:=b64) (by decide) nq));omega
  ·intro A5 m5 c5 A6 m6 c6 h6 l6 k5 k6 M5 M6
   exact hK _ _ _ _ _ _ _ (B0 l1 (B0 l3 l6)) k5 k6 M5 M6
end
theorem A0j{x a b p:Int}(h:a+p*b=x)(h0:0<=a)(h1:a<p):x/p=b/\x%p=a:=(Int.ediv_emod_unique (by omega)).2 ⟨h,h0,h1⟩
theorem Qt{P:Program}{h:Heap}{A:Option Addr}{n m c s:Nat}{cs:List Value}(hl:cs.length=n*s)(hc:cs=[]\/∃ a,A=some a/\∀ j v,cs[j]? = some v->h.cell? (a.add j)=some v){K:Array Value->Heap->Prop}(x:K cs.toArray h):
 wpH P (Builtin.firstCells s n (.slice A m c)) K h:=by
 cases A with
 | none=>
  rcases hc with rfl|⟨a,e,_⟩
  ·exact x
  ·cases e
 | some a=>
  show wpH P (loadCells a (n*s)) K h
  rcases hc with rfl|⟨a',e,hc⟩
  ·exact Q0 (cs:=[]) hl.symm (fun j v e=>by simp at e) x
  ·cases e
   exact Q0 hl.symm hc x
theorem A9i{P:Program}{t e ty:TypeId}{k:IntKind}{bytes:Nat}(s:SliceT P t e (.int k 0) 1 bytes){h g:Heap}{b:Nat}{A:Option Addr}{pre post:List Value}{xs:List Int}{n c m d:Nat}(w:Win k h g b e A pre xs post)(hn:n=xs.length){B:Option Addr}{ys:List Int}(sy:SlI k h B ys)(hm:min m xs.length=ys.length){K:VP}
 (x:∀ h',Win k h' g b e A pre (ys++xs.drop ys.length) post->K (I ys.length) h'):wpH P (B9t #[t,t] ty #[.slice A n c,.slice B m d]) K h:=by
 subst hn
 have hle:ys.length<=xs.length:=by omega
 obtain ⟨i,hi,hz,hsz,hby⟩:=s.parts
 unfold B9t
 simp only [B9x,B8l,B8v,C2,D7 s.und,K3 hi,E8,Builtin.lenOf,hsz]
 have hmin:Nat.min m xs.length=ys.length:=hm
 rw [hmin]
 refine Qt (s:=1) (cs:=ys.map (B9b k)) (by simp) sy ?_
 cases A with
 | none=>
  rcases w.at_ with h0|h0
  ·subst h0
   have:ys=[]:=B96 (by simpa using hle)
   subst this
   exact x h (by simpa using w)
  ·cases h0
 | some a=>
  simp only [C2]
  rcases w.at_ with h0|h0
  ·subst h0
   have:ys=[]:=B96 (by simpa using hle)
   subst this
   exact x h (by simpa using w)
  ·cases h0
   rw [w.eq]
   refine I4 (ys.map (B9b k)) pre.length 0 (pre++xs.map (B9b k)++post) (by simp;omega) (fun v hv=>?_) ?_
   ·obtain ⟨u,_,rfl⟩:=List.mem_map.1 hv;rfl
   ·refine x _ ⟨w.free,?_,?_⟩
    ·congr 3
     unfold K4
     rw [C03,B97 pre,B9n rfl,C0a]
     rw [C08,B8z (show pre.length<=pre.length+ys.length by omega),B9e,B9o]
     rw [C07 (by simpa using hle),<- List.map_drop,B9w]
     simp only [B97]
    ·right;rfl
section
variable {h g:Heap} {K:VP} {A B:Option Addr} {ac bc:Nat}
theorem B0l(a n:Nat):(if (a:Int)<(n:Int) then (a:Int) else (n:Int))=((min n a:Nat):Int):=by split<;>omega
theorem Ht{xs:List Int}(d:Dig b64 xs)(n:Nat):val b64 xs/b64^n=val b64 (xs.drop (min n xs.length))/\val b64 xs%b64^n=val b64 (xs.take (min n xs.length)):=by
 by_cases hn:n<=xs.length
 ·rw [B8m hn]
  have h1:=G2 b64 xs hn
  have h2:=C5 (by decide) (d.take n)
  have h3:=M0 (by decide) (d.take n)
  rw [B8j,B8m hn] at h3
  exact A0j h1.symm h2 h3
 ·rw [Nat.min_eq_right (by omega),C06,B8x]
  have h2:=C5 (by decide) d
  have h3:=M0 (by decide) d
  have h4:=D0 (B:=b64) (by decide) (show xs.length<=n by omega)
  exact A0j (by simp [val]) h2 (by omega)
theorem T1{x:Int}{an n:Nat}(ma:Mw h A an x)(ha:an<=ac)(hK:∀ A' m c',m<=c'->m<=an->Mw h A' m (x/b64^n)->K (.slice A' m c') h):FCall prog P7 #[.slice A an ac,I n] h K:=by
 obtain ⟨xs,rfl,sx,dx,nx,rfl⟩:=ma
 refine Vg _ _ _ _ ?_
 unfold Sk
 rw [B0l,B8g]
 refine ⟨⟨by omega,by omega⟩,hK _ _ _ (by omega) (by omega) ?_⟩
 rw [(Ht dx n).1,<- B8p]
 refine Mw.of (Uz sx (by omega) ha) (dx.drop _) ?_
 by_cases hk:min n xs.length<xs.length
 ·exact Ih nx hk
 ·rw [B8z (by omega)];exact Norm.nil
theorem Cp{x:Int}{an n:Nat}(ma:Mw h A an x)(ha:an<=ac)(hl:an<=10000000000)(hK:∀ A' m c',m<=c'->m<=n->m<=an->Mw h A' m (x%b64^n)->K (.slice A' m c') h):FCall prog Y9 #[.slice A an ac,I n] h K:=by
 obtain ⟨xs,rfl,sx,dx,nx,rfl⟩:=ma
 refine Ye _ _ _ _ ?_
 unfold Yf
 rw [B0l,B8g,J6,B9d,B9d]
 refine ⟨⟨by omega,by omega⟩,W4 (Fz sx (m:=min n xs.length) (by omega) ha) (dx.take _) (by rw [B8j];omega) (Ht dx n).2.symm (by omega) (by omega) ?_⟩
 intro m hm M
 exact ⟨_,_,_,rfl,hK _ _ _ (by omega) (by omega) (by omega) M⟩
theorem Ee{x y:Int}{an bn n:Nat}(ma:Mw h A an x)(mb:Mw h B bn y)(hbn:bn<=n)(hl:n+an<=5000000000)(hK:∀ A' m c' h',h.le h'->m<=c'->Mw h' A' m (x*b64^n+y)->K (.slice A' m c') h'):FCall prog Hb #[.slice A an ac,.slice B bn bc,I n] h K:=by
 obtain ⟨xs,rfl,sx,dx,nx,rfl⟩:=ma
 obtain ⟨ys,rfl,sy,dy,ny,rfl⟩:=mb
 refine A9x _ _ _ _ _ _ _ ?_
 unfold B5g
 have e1:B5 ((n:Int)+xs.length)=((n+xs.length:Nat):Int):=by rw [B8 (by omega) (by omega)];omega
 rw [e1]
 refine O3 L0 (by omega) (by omega) (by omega) ?_
 intro b hb
 rw [B8g]
 refine ⟨_,_,_,rfl,?_⟩
 have w0:=Win.blk .u64 B9 hb (B8i (n+xs.length) 0)
 refine Da L0 w0 (by simp) (sy.mono w0.le) rfl (by simp;omega) ?_
 intro h1 w1
 refine ⟨_,rfl,⟨by omega,by omega⟩,?_⟩
 rw [B90] at w1
 generalize hz:ys++B8i (n+xs.length-ys.length) (0:Int)=zs at w1
 have hzl:zs.length=n+xs.length:=by rw [<- hz];simp;omega
 have w2:=w1.sub (l:=n) (m:=n+xs.length) (c:=n+xs.length) (by omega) (by omega) (by omega)
 rw [B8g]
 refine Da L0 w2 (by rw [B8j,B8p];omega) (sx.mono w1.le) rfl (by rw [B8j,B8p];omega) ?_
 intro h2 w3
 rw [B8z (by rw [B8j,B8p];omega),B9g] at w3
 have w4:=w1.whole (l:=n) (m:=n+xs.length) (by omega) (by omega) (by omega) w3
 rw [B8z (show zs.length<=n+xs.length by omega),B9g] at w4
 have hzt:zs.take n=ys++B8i (n-ys.length) 0:=by
  rw [<- hz,List.take_append,B8u (by omega),B9f]
  congr 2;omega
 rw [hzt] at w4
 refine ⟨_,rfl,W4 w4.sl ((dy.append (K6 (by decide) _)).append dx) (by simp;omega) rfl (by omega) (by omega) ?_⟩
 intro m hm M
 refine ⟨_,_,_,rfl,hK _ _ _ _ w4.le hm ?_⟩
 rw [E7,Ae] at M
 have e:(ys++B8i (n-ys.length) (0:Int)).length=n:=by simp;omega
 rw [e] at M
 have e2:val b64 xs*b64^n+val b64 ys=val b64 ys+b64^n*val b64 xs:=by rw [B8w];omega
 rw [e2];exact M
theorem B31{x y:Int}(hx:0<=x/\x<18446744073709551616)(hy:0<=y/\y<18446744073709551616)(hK:K (.tuple #[U (x*y/18446744073709551616),U (x*y%18446744073709551616)]) h):FCall prog A60 #[U x,U y] h K:=by
 refine B3m _ _ ?_
 unfold B89
 exact Ij hx hy ⟨_,_,rfl,hK⟩
theorem A00{v:Int}{n:Nat}(s:SlI .u64 h A [v])(hn:0<n)(hl:n<=1000000000)(hK:∀ A' h',h.le h'->SlI .u64 h' A' (B8i n v)->K (.slice A' n n) h'):FCall prog Ox #[.slice A 1 ac,I n] h K:=by
 refine A3j _ _ _ _ ?_
 unfold A77
 refine B7 (fun h1=>by omega) (fun _=>?_)
 rw [C4 (n:=((1:Nat):Int)) (by omega) (by omega),C4 (n:=(n:Int)) (by omega) (by omega)]
 refine B31 (by omega) (by omega) ⟨_,_,rfl,?_⟩
 have e1:((1:Nat):Int)*(n:Int)/18446744073709551616=0:=by omega
 have e2:((1:Nat):Int)*(n:Int)%18446744073709551616=n:=by omega
 rw [e1,e2]
 refine B7 (fun h1=>by omega) (fun _=>?_)
 refine B7 (fun h1=>by omega) (fun _=>?_)
 rw [B8 (n:=(n:Int)) (by omega) (by omega)]
 refine O3 L0 (by omega) (by omega) (by omega) ?_
 intro b hb
 rw [B8g]
 refine ⟨_,_,_,rfl,?_⟩
 have w0:=Win.blk .u64 B9 hb (B8i n 0)
 refine Da L0 w0 (by simp) (s.mono w0.le) rfl (by simp;omega) ?_
 intro h1 w1
 refine ⟨_,rfl,?_⟩
 rw [B90] at w1
 refine ⟨fun l hp=>∃ k:Nat,l=[I k]/\0<k/\k<=n/\Win .u64 hp h b B9 (some ⟨b,0,none⟩) [] (B8i k v++B8i (n-k) 0) [],fun l _=>n-(iAt l 0).toNat,⟨1,rfl,by omega,hn,w1⟩,?_⟩
 rintro i hp ⟨k,hli,hk0,hkn,w⟩
 obtain rfl:=sI1 hli
 refine B7 (fun h2=>?_) (fun h2=>?_)
 ·have hzl:(B8i k v++B8i (n-k) (0:Int)).length=n:=by simp;omega
  refine ⟨⟨by omega,by omega⟩,⟨by omega,by omega⟩,?_⟩
  simp only [B8g,J6,B9d]
  have w2:=w.sub (l:=k) (m:=n) (c:=n) (by omega) (by omega) (by omega)
  have e3:((B8i k v++B8i (n-k) (0:Int)).drop k).take (n-k)=B8i (n-k) 0:=by
   rw [B9z (by simp),B8u (by simp)]
  rw [e3] at w2
  have s2:SlI .u64 hp (some ⟨b,0,none⟩) (B8i (min k (n-k)) v):=by
   have:=Fz w.sl (c:=n) (m:=min k (n-k)) (by omega) (by omega)
   rwa [List.take_append_of_le_length (by simp;omega),B9f,B8m (by omega)] at this
  refine A9i L0 w2 (by simp) s2 (by simp) ?_
  intro h3 w3
  rw [List.length_replicate] at w3 ⊢
  have w4:=w.whole (l:=k) (m:=n) (by omega) (by omega) (by simp;omega) w3
  have e4:B5 ((k:Int)+(min k (n-k):Nat))=((k+min k (n-k):Nat):Int):=by rw [B8 (by omega) (by omega)];omega
  refine ⟨_,rfl,?_⟩
  rw [e4]
  refine ⟨⟨_,rfl,by omega,by omega,?_⟩,?_⟩
  ·have e5:(B8i k v++B8i (n-k) (0:Int)).take k++(B8i (min k (n-k)) v++(B8i (n-k) (0:Int)).drop (min k (n-k)))++(B8i k v++B8i (n-k) (0:Int)).drop n=B8i (k+min k (n-k)) v++B8i (n-(k+min k (n-k))) 0:=by
    rw [B9n (by simp),B8z (show (B8i k v++B8i (n-k) (0:Int)).length<=n by omega),B9g,B90,<- B97,List.replicate_append_replicate]
    congr 2;omega
   rw [e5] at w4
   exact w4
  ·simp only [iAt,B8l];omega
 ·have hkn:k=n:=by omega
  subst hkn
  have:=w.sl
  rw [Nat.sub_self,List.replicate_zero,B9g] at this
  exact hK _ _ w.le this
end
theorem Mw.high{h:Heap}{A:Option Addr}{an ac k:Nat}{x:Int}(ma:Mw h A an x)(ha:an<=ac)(hk:k<=an):Mw h (J1 A ac k 1) (an-k) (x/b64^k):=by
 obtain ⟨xs,rfl,sx,dx,nx,rfl⟩:=ma
 have e:=(Ht dx k).1
 rw [B8m hk] at e
 rw [e,<- B8p]
 refine Mw.of (Uz sx hk ha) (dx.drop _) ?_
 by_cases hk2:k<xs.length
 ·exact Ih nx hk2
 ·rw [B8z (by omega)];exact Norm.nil
theorem A8j{x P X2 yh top:Int}(hP:0<P)(h1:x<P*P*(X2+1))(h2:P*top<=x)(hlt:X2<yh):top<P*yh:=by
 by_cases hc:top<P*yh
 ·exact hc
 ·have t1:P*(P*yh)<=P*top:=B8k (by omega) (by omega)
  have t2:P*P*(X2+1)<=P*P*yh:=B8k (by omega) (B8s (by omega) (by omega))
  rw [B9m P P yh] at t2
  omega
theorem A8k{x P X2 yh top:Int}(hP:0<P)(h1:P*P*X2<=x)(h2:x<P*(top+1))(hge:yh<=X2):P*yh<=top:=by
 by_cases hc:P*yh<=top
 ·exact hc
 ·have t1:P*(top+1)<=P*(P*yh):=B8k (by omega) (by omega)
  have t2:P*P*yh<=P*P*X2:=B8k (by omega) (B8s (by omega) (by omega))
  rw [B9m P P yh] at t2
  omega
def B1n(N:Nat):Prop:=∀ {h:Heap} {K:VP} {A B:Option Addr} {ac bc an bn:Nat} {x y:Int},bn<=N->Mw h A an x->Mw h B bn y->an<=ac->bn<=bc->an<=1000000000->bn<=200000000->0<bn->9223372036854775808*b64^(bn-1)<=y->x<b64^bn*y->
 (∀ A1 m1 c1 A2 m2 c2 h',h.le h'->m1<=c1->m2<=c2->Mw h' A1 m1 (x/y)->Mw h' A2 m2 (x%y)->K (.tuple #[.slice A1 m1 c1,.slice A2 m2 c2]) h')->FCall prog Q7 #[.slice A an ac,.slice B bn bc] h K
section
variable {h g:Heap} {K:VP} {A B:Option Addr} {ac bc:Nat}
theorem Ga{x y:Int}:Qn x y<0↔x<y:=by
 unfold Qn
 by_cases h1:x<y
 ·rw [if_pos h1];simp [h1]
 ·rw [if_neg h1]
  by_cases h2:x>y
  ·rw [if_pos h2];simp [h1]
  ·rw [if_neg h2];simp [h1]
set_option maxHeartbeats 1000000 in
theorem Zp{x y q0 R0 pr:Int}{m bn nq cq np cp nr cr:Nat}{Aq Ap Ar:Option Addr}(hx0:0<=x)(mb:Mw h B bn y)(hb:bn<=bc)(hl2:bn<=200000000)(hbm:bn=2*m)(mq:Mw h Aq nq q0)(hq:nq<=cq)(mp:Mw h Ap np pr)(hp2:pr<b64^bn)
 (mr:Mw h Ar nr R0) (hr:nr<=cr) (hq0:q0<b64^m) (hR:R0-pr=x-q0*y) (hy:x-q0*y<y)
 (hK:∀ A1 m1 c1 A2 m2 c2 h',h.le h'->m1<=c1->m2<=c2->Mw h' A1 m1 (x/y)->Mw h' A2 m2 (x%y)->K (.tuple #[.slice A1 m1 c1,.slice A2 m2 c2]) h'):
 U7 prog B bn bc K Aq nq cq Ap np cp Ar nr cr h:=by
 have hyB:=mb.lt (by decide)
 have hy0:=mb.nonneg (by decide)
 have hp0:=mp.nonneg (by decide)
 unfold U7
 refine ⟨fun l hp=>∃ (Aq Ar:Option Addr) (nq cq nr cr:Nat) (q R:Int),l=[.slice Aq nq cq,.slice Ar nr cr]/\h.le hp/\Mw hp Aq nq q/\nq<=cq/\Mw hp Ar nr R/\nr<=cr/\q<b64^m/\R-pr=x-q*y/\x-q*y<y,fun l hp=>match l with|[.slice A n _,_]=>B2e b64 hp A n|_=>0,⟨_,_,_,_,_,_,_,_,rfl,B4 h,mq,hq,mr,hr,hq0,hR,hy⟩,?_⟩
 rintro A1 n1 c1 A2 n2 c2 hp ⟨Aq,Ar,nq,cq,nr,cr,q,R,hl,lh,mq,hq,mr,hr,hq0,hR,hy⟩
 simp only [List.cons.injEq,Value.slice.injEq,and_true] at hl
 obtain ⟨⟨rfl,rfl,rfl⟩,rfl,rfl,rfl⟩:=hl
 have hnr:n2<=bn+1:=mr.len_le (by decide) (by
  rw [B94]
  show R<b64^bn*18446744073709551616
  omega)
 have hnq:n1<=m:=mq.len_le (by decide) hq0
 refine I8 mr (mp.mono lh) (by omega) ⟨_,rfl,?_⟩
 refine B7 (fun h1=>?_) (fun h1=>?_)
 ·rw [Ga] at h1
  have hq1:=mq.nonneg (by decide)
  have hq2:1<=q:=by
   by_cases hc:1<=q
   ·exact hc
   ·obtain rfl:q=0:=by omega
    omega
  refine R2 mr (mb.mono lh) hr hb (by omega) (by omega) ?_
  intro A3 n3 c3 h3 l3 k3 M3
  refine ⟨_,_,_,rfl,Ax L0 rfl ?_⟩
  intro b hb'
  refine ⟨_,_,_,rfl,?_⟩
  have l4:=Heap.le_put (.cells #[U 1] B9) hb'
  have M1:Mw (h3.put b (.cells #[U 1] B9)) (some ⟨b,0,none⟩) 1 1:=⟨[1],rfl,SlI.new h3 b [1] B9 _,Dig.one (by decide),by simp [Norm],Ce _ _⟩
  refine J2 ((mq.mono l3).mono l4) M1 hq (by omega) hq2 ?_
  intro A5 n5 c5 h5 l5 k5 M5
  refine ⟨_,_,_,rfl,⟨_,_,_,_,_,_,_,_,rfl,B0 lh (B0 l3 (B0 l4 l5)),M5,k5,(M3.mono l4).mono l5,k3,by omega,?_,?_⟩,?_⟩
  ·rw [Int.sub_mul];omega
  ·rw [Int.sub_mul];omega
  ·simp only [Ed M5,Ed mq];omega
 ·rw [Ga] at h1
  refine J2 mr (mp.mono lh) hr (by omega) (by omega) ?_
  intro A3 n3 c3 h3 l3 k3 M3
  obtain ⟨d1,d2⟩:=A0j (x:=x) (a:=R-pr) (b:=q) (p:=y) (by rw [hR,B8w y];omega) (by omega) (by omega)
  refine ⟨_,_,_,rfl,hK _ _ _ _ _ _ _ (B0 lh l3) hq k3 ?_ ?_⟩
  ·rw [d1];exact mq.mono l3
  ·rw [d2];exact M3
set_option maxHeartbeats 1000000 in
theorem Nr{N:Nat}(ih:B1n N){x y:Int}{an bn m:Nat}(hm:0<m)(hN:m<=N)(hbm:bn=2*m)(ma:Mw h A an x)(mb:Mw h B bn y)(ha:an<=ac)(hb:bn<=bc)(hl:an<=1000000000)(hl2:bn<=200000000)(htop:9223372036854775808*b64^(bn-1)<=y)(hxy:x<b64^m*y)
 (hK:∀ A1 m1 c1 A2 m2 c2 h',h.le h'->m1<=c1->m2<=c2->Mw h' A1 m1 (x/y)->Mw h' A2 m2 (x%y)->K (.tuple #[.slice A1 m1 c1,.slice A2 m2 c2]) h'):FCall prog Q6 #[.slice A an ac,.slice B bn bc] h K:=by
 have hx0:=ma.nonneg (by decide)
 have hy0:=mb.nonneg (by decide)
 have hyB:=mb.lt (by decide)
 have hP:=D4 (B:=b64) (by decide) m
 have hPP:b64^bn=b64^m*b64^m:=by rw [<- B93];congr 1;omega
 have hPP2:b64^(2*m)=b64^m*b64^m:=by rw [<- B93];congr 1;omega
 have hPt:b64^(bn-1)=b64^m*b64^(m-1):=by rw [<- B93];congr 1;omega
 have hyh:=mb.high (k:=m) hb (by omega)
 rw [show bn-m=m by omega] at hyh
 have hyh0:=hyh.nonneg (by decide)
 have hyhB:=hyh.lt (by decide)
 have dy:b64^m*(y/b64^m)+y%b64^m=y:=B8n _ _
 have dy1:=B8y y (b:=b64^m) (by omega)
 have dy2:=B8t y hP
 have dx:b64^m*(x/b64^m)+x%b64^m=x:=B8n _ _
 have dx1:=B8y x (b:=b64^m) (by omega)
 have dx2:=B8t x hP
 have hPm:=D4 (B:=b64) (by decide) (m-1)
 have hyt:9223372036854775808*b64^(m-1)<=y/b64^m:=by
  by_cases hc:9223372036854775808*b64^(m-1)<=y/b64^m
  ·exact hc
  ·have t1:b64^m*(y/b64^m+1)<=b64^m*(9223372036854775808*b64^(m-1)):=B8k (by omega) (by omega)
   have t2:b64^m*(9223372036854775808*b64^(m-1))=9223372036854775808*(b64^m*b64^(m-1)):=by grind
   rw [hPt] at htop
   rw [B9l] at t1
   omega
 obtain ⟨ys,hys,sy,dys,nys,rfl⟩:=mb
 have mb:Mw h B bn (val b64 ys):=⟨ys,hys,sy,dys,nys,rfl⟩
 generalize hyv:val b64 ys=y at *
 refine Mh _ _ _ _ _ _ ?_
 unfold Jf
 have eh:B5 (Int.tdiv ((bn:Nat):Int) 2)=(m:Int):=by rw [B91 (by omega),B8 (by omega) (by omega)];omega
 have e2h:B5 (2*(m:Int))=((2*m:Nat):Int):=by rw [B8 (by omega) (by omega)];omega
 simp only [eh,e2h,B8g,B9d,J6]
 rw [show bn-m=m by omega]
 refine ⟨⟨by omega,by omega⟩,⟨by omega,by omega⟩,W4 (Fz sy (m:=m) (c:=bc) (by omega) (by omega)) (dys.take m) (by rw [B8j];omega) rfl (by omega) (by omega) ?_⟩
 intro yn hyn Myl
 have eyl:=(Ht dys m).2
 rw [B8m (by omega),hyv] at eyl
 rw [<- eyl] at Myl
 refine ⟨_,_,_,rfl,B4 h,T1 ma ha ?_⟩
 intro A1 n1 c1 k1 k1' M1
 refine ⟨_,_,_,rfl,?_⟩
 have ht0:=M1.nonneg (by decide)
 refine ⟨fun l hp=>∃ (Aq Ar:Option Addr) (nq cq nr cr:Nat) (q r:Int),l=[.slice Aq nq cq,.slice Ar nr cr]/\h.le hp/\Mw hp Aq nq q/\nq<=cq/\Mw hp Ar nr r/\nr<=cr/\q<b64^m/\x/b64^m=q*(y/b64^m)+r/\x-q*y<y,?_,?_⟩
 ·refine T1 ma ha ?_
  intro A2 n2 c2 k2 k2' M2
  refine ⟨_,_,_,rfl,I8 M2 hyh (by omega) ⟨_,rfl,?_⟩⟩
  have x2a:b64^(2*m)*(x/b64^(2*m))+x%b64^(2*m)=x:=B8n _ _
  have x2b:=B8y x (b:=b64^(2*m)) (by have:=D4 (B:=b64) (by decide) (2*m);omega)
  have x2c:=B8t x (D4 (B:=b64) (by decide) (2*m))
  generalize x/b64^(2*m)=X2 at *
  rw [hPP2] at x2a x2b x2c
  refine B7 (fun h1=>?_) (fun h1=>?_)
  ·rw [Ga] at h1
   have ht:=A8j (x:=x) (top:=x/b64^m) hP (by rw [B9l];omega) (by omega) h1
   refine ih hN M1 hyh k1 (by omega) (by omega) (by omega) hm hyt ht ?_
   intro A3 n3 c3 A4 n4 c4 h3 l3 k3 k4 M3 M4
   have hyp:0<y/b64^m:=by omega
   have d1:=B8n (x/b64^m) (y/b64^m)
   have d2:=B8t (x/b64^m) hyp
   have d0:=M3.nonneg (by decide)
   refine ⟨_,_,_,_,_,_,rfl,_,_,_,_,_,_,_,_,rfl,l3,M3,k3,M4,k4,B98 hyp ht,by rw [B8w];omega,?_⟩
   generalize (x/b64^m)/(y/b64^m)=q at *
   generalize (x/b64^m)%(y/b64^m)=r at *
   generalize x/b64^m=top at *
   generalize y/b64^m=yh at *
   generalize y%b64^m=yl at *
   generalize x%b64^m=xl at *
   generalize b64^m=P at *
   have t1:P*(r+1)<=P*yh:=B8k (by omega) (by omega)
   have t2:x-q*y=P*r+xl-q*yl:=by rw [<- dx,<- dy,<- d1];grind
   have t3:=B8s d0 dy1
   rw [B9l] at t1
   omega
  ·rw [Ga] at h1
   have ht:=A8k (x:=x) (top:=x/b64^m) (yh:=y/b64^m) (X2:=X2) hP (by omega) (by rw [B9l];omega) (by omega)
   refine Ax L0 rfl ?_
   intro b hb'
   refine ⟨_,_,_,rfl,?_⟩
   have l4:=Heap.le_put (.cells #[U 18446744073709551615] B9) hb'
   refine A00 (v:=18446744073709551615) (SlI.new h b [18446744073709551615] B9 _) hm (by omega) ?_
   intro A5 h5 l5 s5
   refine ⟨_,_,_,rfl,?_⟩
   have l45:=B0 l4 l5
   refine Ee (hyh.mono l45) (Mag.zero (k:=.u64) (B:=b64)) (by omega) (by omega) ?_
   intro A6 n6 c6 h6 l6 k6 M6
   refine ⟨_,_,_,rfl,?_⟩
   have l46:=B0 l45 l6
   refine J2 (M1.mono l46) M6 k1 (by omega) (by rw [B8w];omega) ?_
   intro A7 n7 c7 h7 l7 k7 M7
   have hn7:n7<=an:=M7.len_le (by decide) (by
    have:=ma.lt (by decide)
    have t1:=B8s hyh0 (B8q hP)
    have t2:1*(x/b64^m)<=b64^m*(x/b64^m):=B8h (by omega) ht0
    omega)
   refine ⟨_,_,_,rfl,?_⟩
   refine R2 M7 ((hyh.mono l46).mono l7) k7 (by omega) (by omega) (by omega) ?_
   intro A8 n8 c8 h8 l8 k8 M8
   have hrep:∀ j:Nat,val b64 (B8i j 18446744073709551615)=b64^j-1:=by
    intro j
    induction j with
    | zero=>rfl
    | succ j ihj=>
     rw [List.replicate_succ,val,ihj,B94]
     show (18446744073709551615:Int)+18446744073709551616*(b64^j-1)=b64^j*18446744073709551616-1
     omega
   have M5:Mw h5 A5 m (b64^m-1):=by
    refine ⟨B8i m 18446744073709551615,by simp,s5,?_,?_,hrep m⟩
    ·intro z hz
     have:=List.eq_of_mem_replicate hz
     subst this;decide
    ·obtain ⟨j,rfl⟩:∃ j,m=j+1:=⟨m-1,by omega⟩
     unfold Norm
     rw [List.replicate_succ']
     simp
   refine ⟨_,_,_,rfl,_,_,_,_,_,_,_,_,rfl,B0 l46 (B0 l7 l8),((M5.mono l6).mono l7).mono l8,B92 _,M8,k8,by omega,?_,?_⟩
   ·grind
   ·have:(b64^m-1)*y=b64^m*y-y:=by grind
    omega
 ·rintro Aq' nq' cq' Ar' nr' cr' hp ⟨Aq,Ar,nq,cq,nr,cr,q,r,hli,lh,mq,hq,mr,hr,hqP,htq,hqy⟩
  simp only [List.cons.injEq,Value.slice.injEq,and_true] at hli
  obtain ⟨⟨rfl,rfl,rfl⟩,rfl,rfl,rfl⟩:=hli
  have hq0:=mq.nonneg (by decide)
  have hr0:=mr.nonneg (by decide)
  have hnq:nq'<=m:=mq.len_le (by decide) hqP
  have hnr:nr'<=an:=mr.len_le (by decide) (by
   have:=ma.lt (by decide)
   have t1:=B8s hq0 hyh0
   have t2:1*(x/b64^m)<=b64^m*(x/b64^m):=B8h (by omega) ht0
   omega)
  refine F3 mq (Myl.mono lh) hq (by omega) (by omega) (by omega) ?_
  intro A3 n3 c3 h3 l3 k3 M3
  refine ⟨_,_,_,rfl,Cp (ma.mono (B0 lh l3)) ha (by omega) ?_⟩
  intro A4 n4 c4 k4 k4' k4'' M4
  refine ⟨_,_,_,rfl,Ee (mr.mono l3) M4 k4' (by omega) ?_⟩
  intro A5 n5 c5 h5 l5 k5 M5
  have l05:=B0 lh (B0 l3 l5)
  refine ⟨_,_,_,rfl,Zp (q0:=q) (m:=m) hx0 (mb.mono l05) hb hl2 hbm ((mq.mono l3).mono l5) hq (M3.mono l5) ?_ M5 k5 hqP ?_ hqy ?_⟩
  ·rw [hPP]
   have t1:q*(y%b64^m)<=q*b64^m:=B8k (by omega) hq0
   have t2:q*b64^m<b64^m*b64^m:=B9h hqP hP
   omega
  ·generalize x/b64^m=top at *
   generalize y/b64^m=yh at *
   generalize y%b64^m=yl at *
   generalize x%b64^m=xl at *
   generalize b64^m=P at *
   rw [<- dx,<- dy,htq];grind
  ·intro A6 n6 c6 A7 n7 c7 h7 l7 k6 k7 M6 M7
   exact hK _ _ _ _ _ _ _ (B0 l05 l7) k6 k7 M6 M7
end
set_option maxHeartbeats 1000000 in
theorem B4f:∀ N,B1n N:=by
 intro N
 induction N with
 | zero=>intro h K A B ac bc an bn x y h1 _ _ _ _ _ _ h2;omega
 | succ N ih=>
  intro h K A B ac bc an bn x y hN ma mb ha hb hl hl2 hb0 htop hxy hK
  have hx0:=ma.nonneg (by decide)
  have hy0:=mb.nonneg (by decide)
  have hyp:0<y:=by
   have:=D4 (B:=b64) (by decide) (bn-1);omega
  refine Mj _ _ _ _ _ _ ?_
  unfold Jh
  have simple:FCall prog G8 #[.slice A an ac,.slice B bn bc] h (fun r hp=>∃ (t22aA:Option Addr) (t22an:Nat) (t22ac:Nat) (t22bA:Option Addr) (t22bn:Nat) (t22bc:Nat),r= .tuple #[.slice t22aA t22an t22ac,.slice t22bA t22bn t22bc]/\K (.tuple #[.slice t22aA t22an t22ac,.slice t22bA t22bn t22bc]) hp):=by
   refine Bs ma mb ha hb (by omega) hl (by omega) ?_
   intro A1 m1 c1 A2 m2 c2 h' l k1 k2 M1 M2
   exact ⟨_,_,_,_,_,_,rfl,hK _ _ _ _ _ _ _ l k1 k2 M1 M2⟩
  refine B7 (fun h1=>simple) (fun h1=>?_)
  refine H9 (fun h2=>simple) (fun h2=>?_)
  rw [B9i (by omega)] at h2
  obtain ⟨m,hbm⟩:∃ m,bn=2*m:=⟨bn/2,by omega⟩
  have eh:B5 (Int.tdiv ((bn:Nat):Int) 2)=(m:Int):=by rw [B91 (by omega),B8 (by omega) (by omega)];omega
  simp only [eh]
  have hP:=D4 (B:=b64) (by decide) m
  have hPP:b64^bn=b64^m*b64^m:=by rw [<- B93];congr 1;omega
  have dx:b64^m*(x/b64^m)+x%b64^m=x:=B8n _ _
  have dx1:=B8y x (b:=b64^m) (by omega)
  have dx2:=B8t x hP
  rw [hPP] at hxy
  refine T1 ma ha ?_
  intro A1 n1 c1 k1 k1' M1
  refine ⟨_,_,_,rfl,?_⟩
  have ht:x/b64^m<b64^m*y:=by
   by_cases hc:x/b64^m<b64^m*y
   ·exact hc
   ·have t1:b64^m*(b64^m*y)<=b64^m*(x/b64^m):=B8k (by omega) (by omega)
    rw [B9m] at hxy
    omega
  refine Nr ih (by omega) (by omega) hbm M1 mb k1 hb (by omega) hl2 htop ht ?_
  intro A2 n2 c2 A3 n3 c3 h3 l3 k2 k3 M2 M3
  refine ⟨_,_,_,_,_,_,rfl,Cp (ma.mono l3) ha (by omega) ?_⟩
  intro A4 n4 c4 k4 k4' k4'' M4
  have d1:=B8n (x/b64^m) y
  have d2:=B8t (x/b64^m) hyp
  have d3:=B8y (x/b64^m) (b:=y) (by omega)
  have hq1:x/b64^m/y<b64^m:=B98 hyp ht
  have hn3:n3<=bn:=M3.len_le (by decide) (by have:=mb.lt (by decide);omega)
  have hn2:n2<=m:=M2.len_le (by decide) hq1
  refine ⟨_,_,_,rfl,Ee M3 M4 k4' (by omega) ?_⟩
  intro A5 n5 c5 h5 l5 k5 M5
  refine ⟨_,_,_,rfl,?_⟩
  have hj:(x/b64^m)%y*b64^m+x%b64^m<b64^m*y:=by
   have t1:b64^m*((x/b64^m)%y+1)<=b64^m*y:=B8k (by omega) (by omega)
   rw [B9l,B8w] at t1
   omega
  have hn5:n5<=bn+m:=M5.len_le (by decide) (by
   have t1:b64^m*y<b64^m*b64^bn:=B9j (mb.lt (by decide)) hP
   rw [Nat.add_comm,B93];omega)
  refine Nr ih (by omega) (by omega) hbm M5 (mb.mono (B0 l3 l5)) k5 hb (by omega) hl2 htop hj ?_
  intro A6 n6 c6 A7 n7 c7 h7 l7 k6 k7 M6 M7
  have hn6:n6<=m:=M6.len_le (by decide) (B98 hyp hj)
  refine ⟨_,_,_,_,_,_,rfl,Ee ((M2.mono l5).mono l7) M6 hn6 (by omega) ?_⟩
  intro A8 n8 c8 h8 l8 k8 M8
  refine ⟨_,_,_,rfl,?_⟩
  have e1:=B8n ((x/b64^m)%y*b64^m+x%b64^m) y
  have e2:=B8t ((x/b64^m)%y*b64^m+x%b64^m) hyp
  have e3:=B8y ((x/b64^m)%y*b64^m+x%b64^m) (b:=y) (by omega)
  have M7':=M7.mono l8
  have l08:=B0 l3 (B0 l5 (B0 l7 l8))
  generalize ((x/b64^m)%y*b64^m+x%b64^m)/y=q2 at *
  obtain ⟨f1,f2⟩:=A0j (x:=x) (a:=((x/b64^m)%y*b64^m+x%b64^m)%y) (b:=x/b64^m/y*b64^m+q2) (p:=y) (by
   generalize ((x/b64^m)%y*b64^m+x%b64^m)%y=r2 at *
   generalize x/b64^m/y=q1 at *
   generalize x/b64^m%y=r1 at *
   generalize x/b64^m=top at *
   generalize x%b64^m=xl at *
   generalize b64^m=P at *
   grind) e3 e2
  refine hK _ _ _ _ _ _ _ l08 k8 k7 ?_ ?_
  ·rw [f1];exact M8
  ·rw [f2];exact M7'
end Go.Proofs.YtajkakhfcokljaaGreatDoor
