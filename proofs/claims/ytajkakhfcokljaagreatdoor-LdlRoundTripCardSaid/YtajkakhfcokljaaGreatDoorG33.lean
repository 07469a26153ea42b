/-
  Texts of this proof, merged by a program of ours.
-/
import Derived.Test.YtajkakhfcokljaaGreatDoorG32
open Nat renaming le_refl->C5q
open Rat renaming add_zero->C5r,intCast_mul->C5s,mul_zero->C5t
namespace Go.Proofs.YtajkakhfcokljaaGreatDoor
set_option linter.all false
structure TE (n k:Nat) (R:Nat->Nat->Rat) (M:Nat->Nat->Int) (S:Nat->Rat) (last:Int):Prop where
 elim:∃ B R',(∀ i j,i<n->j<n->Wh (B i j))/\Elim n n B R' (fun m=>m) k/\(last:Rat)=dp B (fun m=>m) k/\∀ i j,k<=i->i<n->j<n->R' i j=S i*R i j
 ne:last≠0
 val:∀ i j,k<=i->i<n->j<n->(M i j:Rat)=last*(S i*R i j)
 scale:∀ i,k<=i->i<n->0<S i
theorem TE.start{n:Nat}{A:Nat->Nat->Rat}{M:Nat->Nat->Int}{S:Nat->Rat}(h:∀ i j,i<n->j<n->(M i j:Rat)=S i*A i j)(hS:∀ i,i<n->0<S i):TE n 0 A M S 1:=by
 have e1:((1:Int):Rat)=1:=rfl
 refine ⟨⟨fun i j=>S i*A i j,fun i j=>S i*A i j,fun i j hi hj=>⟨M i j,(h i j hi hj).symm⟩,Elim.start,rfl,fun _ _ _ _ _=>rfl⟩,by decide,fun i j _ hi hj=>?_,fun i _ hi=>hS i hi⟩
 rw [e1,Rat.one_mul,h i j hi hj]
theorem TE.congr{n k:Nat}{R R':Nat->Nat->Rat}{M M':Nat->Nat->Int}{S S':Nat->Rat}{last:Int}(h:TE n k R M S last)(hR:∀ i j,k<=i->i<n->j<n->R i j=R' i j)(hM:∀ i j,k<=i->i<n->j<n->M i j=M' i j)(hS:∀ i,k<=i->i<n->S i=S' i):TE n k R' M' S' last:=by
 obtain ⟨B,X,h1,h2,h3,h4⟩:=h.elim
 exact ⟨⟨B,X,h1,h2,h3,fun i j a b c=>by rw [<- hS i a b,<- hR i j a b c];exact h4 i j a b c⟩,h.ne,fun i j a b c=>by rw [<- hM i j a b c,<- hS i a b,<- hR i j a b c];exact h.val i j a b c,fun i a b=>by rw [<- hS i a b];exact h.scale i a b⟩
theorem TE.zero{n k:Nat}{R:Nat->Nat->Rat}{M:Nat->Nat->Int}{S:Nat->Rat}{last:Int}(h:TE n k R M S last){i j:Nat}(hk:k<=i)(hi:i<n)(hj:j<n):M i j=0↔R i j=0:=by
 have hv:=h.val i j hk hi hj
 have h3:=J5 h.ne
 have h4:S i≠0:=by have:=h.scale i hk hi;grind
 constructor
 ·intro e
  rw [e] at hv
  have h0:((0:Int):Rat)=0:=rfl
  rw [h0] at hv
  rcases Rat.mul_eq_zero.1 hv.symm with e1|e1
  ·exact absurd e1 h3
  ·rcases Rat.mul_eq_zero.1 e1 with e2|e2
   ·exact absurd e2 h4
   ·exact e2
 ·intro e
  rw [e,C5t,C5t] at hv
  exact_mod_cast hv
theorem TE.adv{n k:Nat}{R:Nat->Nat->Rat}{M:Nat->Nat->Int}{S:Nat->Rat}{last:Int}(h:TE n k R M S last)(hk:k<n)(hne:R k k≠0):
 TE n (k+1) (fun i j=>R i j-R i k*(R k j/R k k)) (fun i j=>(M k k*M i j-M i k*M k j).tdiv last) S (M k k):=by
 obtain ⟨B,X,h1,h2,h3,h4⟩:=h.elim
 have hS:S k≠0:=by have:=h.scale k (C5q _) hk;grind
 have hX:X k k≠0:=by
  rw [h4 k k (C5q _) hk hk]
  intro e
  rcases Rat.mul_eq_zero.1 e with e|e
  ·exact hS e
  ·exact hne e
 have E:=h2.step (j:=k) hk hk rfl hX
 have hnx:=h2.next (j:=k) hk hk rfl
 have hl:(M k k:Rat)=last*X k k:=by rw [h.val k k (C5q _) hk hk,h4 k k (C5q _) hk hk]
 have hX': ∀ i j,k+1<=i->i<n->j<n->Co X k k i j=S i*(R i j-R i k*(R k j/R k k)):=fun i j a b c=>by
  unfold Co
  rw [if_neg (by omega),h4 i j (by omega) b c,h4 i k (by omega) b hk,h4 k j (C5q _) hk c,h4 k k (C5q _) hk hk]
  grind
 refine ⟨⟨B,Co X k k,h1,E,by rw [hnx,<- h3,hl],hX'⟩,?_,fun i j a b c=>?_,fun i a b=>h.scale i (by omega) b⟩
 ·intro e
  rw [(h.zero (C5q _) hk hk)] at e
  exact hne e
 ·obtain ⟨z,hz⟩:=E.whole h1 (i:=i) (j:=j) b c
  rw [hnx,<- h3,<- hl] at hz
  have hlast:=J5 h.ne
  have e1:M k k*M i j-M i k*M k j=last*z:=by
   have:((M k k*M i j-M i k*M k j:Int):Rat)=((last*z:Int):Rat):=by
    rw [Rat.intCast_sub,C5s,C5s,C5s,<- hz,hl,h.val i j (by omega) b c,h.val i k (by omega) b hk,h.val k j (C5q _) hk c]
    rw [hX' i j a b c,h4 k k (C5q _) hk hk]
    grind
   exact_mod_cast this
  rw [Sc h.ne e1,<- hz,hX' i j a b c]
theorem TE.swap{n k l:Nat}{R:Nat->Nat->Rat}{M:Nat->Nat->Int}{S:Nat->Rat}{last:Int}(h:TE n k R M S last)(hkl:k<=l)(hl:l<n):
 TE n k (fun i j=>R (xch k l i) (xch k l j)) (fun i j=>M (xch k l i) (xch k l j)) (fun i=>S (xch k l i)) last:=by
 obtain ⟨B,X,h1,h2,h3,h4⟩:=h.elim
 have hk:k<n:=by omega
 have lt:∀ {i},i<n->xch k l i<n:=fun hi=>Ce hk hl hi
 have ge:∀ {i},k<=i->k<=xch k l i:=fun hi=>A8y hkl hi
 have E:=h2.swap hkl hl
 refine ⟨⟨fun i j=>B (xch k l i) (xch k l j),fun i j=>X (xch k l i) (xch k l j),fun i j hi hj=>h1 _ _ (lt hi) (lt hj),⟨E.kn,fun m hm=>by omega,fun a m ha hm=>?_,fun i m hi hki hm=>?_,fun a j ha hj=>?_,fun i j hi hki hj=>?_⟩,?_,fun i j a b c=>h4 _ _ (ge a) (lt b) (lt c)⟩,h.ne,fun i j a b c=>h.val _ _ (ge a) (lt b) (lt c),fun i a b=>h.scale _ (ge a) (lt b)⟩
 ·rw [Aa hkl hm];exact E.piv a m ha hm
 ·rw [Aa hkl hm];exact E.low i m hi hki hm
 ·rw [E.top a _ ha (lt hj)]
  exact C9 fun m hm=>by rw [Aa hkl hm]
 ·rw [E.bot i _ hi hki (lt hj)]
  congr 1
  exact C9 fun m hm=>by rw [Aa hkl hm]
 ·rw [h3]
  exact O9 fun c r hc hr=>by show B r c=B (xch k l r) (xch k l c);rw [Aa hkl hr,Aa hkl hc]
theorem TE.addRow{n k a b:Nat}{R:Nat->Nat->Rat}{M:Nat->Nat->Int}{S:Nat->Rat}{last x y:Int}{s:Rat}(h:TE n k R M S last)(hka:k<=a)(ha:a<n)(hkb:k<=b)(hb:b<n)(hs:0<s)(hx:s=x*S a)(hy:s=y*S b):
 TE n k (fun i j=>R i j+if i=a then R b j else 0) (fun i j=>if i=a then M a j*x+M b j*y else M i j) (fun i=>if i=a then s else S i) last:=by
 obtain ⟨B,X,h1,h2,h3,h4⟩:=h.elim
 have w:∀ z:Int,Wh (z:Rat):=fun z=>⟨z,rfl⟩
 refine ⟨⟨fun i j=>if i=a then x*B a j+y*B b j else B i j,fun i j=>if i=a then x*X a j+y*X b j else X i j,fun i j hi hj=>?_,⟨h2.kn,h2.cw,fun l m hl hm=>?_,fun i m hi hki hm=>?_,fun l j hl hj=>?_,fun i j hi hki hj=>?_⟩,?_,fun i j hki hi hj=>?_⟩,h.ne,fun i j hki hi hj=>?_,fun i hki hi=>?_⟩
 ·dsimp only;split
  ·exact ((w x).mul (h1 a j ha hj)).add ((w y).mul (h1 b j hb hj))
  ·exact h1 i j hi hj
 ·rw [if_neg (by omega)];exact h2.piv l m hl hm
 ·have z:=fun i hi hki=>h2.low i m hi hki hm
  split
  ·rw [z a ha hka,z b hb hkb];grind
  ·exact z i hi hki
 ·rw [if_neg (by omega),h2.top l j hl hj]
  exact C9 fun m hm=>by rw [if_neg (by omega),if_neg (by omega)]
 ·by_cases c:i=a
  ·rw [if_pos c,if_pos c,h2.bot a j ha hka hj,h2.bot b j hb hkb hj]
   have e:(sm k fun m=>(if i=a then x*B a m+y*B b m else B i m)*(if m=a then x*X a j+y*X b j else X m j))=x*sm k (fun m=>B a m*X m j)+y*sm k (fun m=>B b m*X m j):=by
    rw [<- Ci,<- Ci,<- S4]
    exact C9 fun m hm=>by rw [if_pos c,if_neg (by omega)];grind
   rw [e]
   grind
  ·rw [if_neg c,if_neg c,h2.bot i j hi hki hj]
   congr 1
   exact C9 fun m hm=>by rw [if_neg c,if_neg (by omega)]
 ·rw [h3]
  exact O9 fun c r hc hr=>by dsimp only;rw [if_neg (by omega)]
 ·dsimp only
  by_cases c:i=a
  ·rw [if_pos c,if_pos c,if_pos c,h4 a j hka ha hj,h4 b j hkb hb hj,c]
   grind
  ·rw [if_neg c,if_neg c,if_neg c,h4 i j hki hi hj,C5r]
 ·by_cases c:i=a
  ·rw [if_pos c,if_pos c,if_pos c,Rat.intCast_add,C5s,C5s,h.val a j hka ha hj,h.val b j hkb hb hj,c]
   grind
  ·rw [if_neg c,if_neg c,if_neg c,h.val i j hki hi hj,C5r]
 ·split
  ·exact hs
  ·exact h.scale i hki hi
theorem TE.addCol{n k a b:Nat}{R:Nat->Nat->Rat}{M:Nat->Nat->Int}{S:Nat->Rat}{last:Int}(h:TE n k R M S last)(hka:k<=a)(ha:a<n)(hkb:k<=b)(hb:b<n):
 TE n k (fun i j=>R i j+if j=a then R i b else 0) (fun i j=>if j=a then M i a+M i b else M i j) S last:=by
 obtain ⟨B,X,h1,h2,h3,h4⟩:=h.elim
 refine ⟨⟨fun i j=>B i j+if j=a then B i b else 0,fun i j=>X i j+if j=a then X i b else 0,fun i j hi hj=>?_,⟨h2.kn,h2.cw,fun l m hl hm=>?_,fun i m hi hki hm=>?_,fun l j hl hj=>?_,fun i j hi hki hj=>?_⟩,?_,fun i j hki hi hj=>?_⟩,h.ne,fun i j hki hi hj=>?_,h.scale⟩
 ·dsimp only;split
  ·exact (h1 i j hi hj).add (h1 i b hi hb)
  ·rw [C5r];exact h1 i j hi hj
 ·rw [if_neg (by omega),C5r];exact h2.piv l m hl hm
 ·rw [if_neg (by omega),C5r];exact h2.low i m hi hki hm
 ·have e:(sm k fun m=>(B l m+if m=a then B l b else 0)*(X m j+if j=a then X m b else 0))=sm k (fun m=>B l m*X m j)+if j=a then sm k (fun m=>B l m*X m b) else 0:=by
   by_cases c:j=a
   ·rw [if_pos c,<- S4]
    exact C9 fun m hm=>by rw [if_pos c,if_neg (by omega)];grind
   ·rw [if_neg c,C5r]
    exact C9 fun m hm=>by rw [if_neg c,if_neg (by omega)];grind
  rw [e,h2.top l j hl hj]
  by_cases c:j=a
  ·rw [if_pos c,if_pos c,h2.top l b hl hb]
  ·rw [if_neg c,if_neg c]
 ·have e:(sm k fun m=>(B i m+if m=a then B i b else 0)*(X m j+if j=a then X m b else 0))=sm k (fun m=>B i m*X m j)+if j=a then sm k (fun m=>B i m*X m b) else 0:=by
   by_cases c:j=a
   ·rw [if_pos c,<- S4]
    exact C9 fun m hm=>by rw [if_pos c,if_neg (by omega)];grind
   ·rw [if_neg c,C5r]
    exact C9 fun m hm=>by rw [if_neg c,if_neg (by omega)];grind
  rw [e,h2.bot i j hi hki hj]
  by_cases c:j=a
  ·rw [if_pos c,if_pos c,if_pos c,h2.bot i b hi hki hb];grind
  ·rw [if_neg c,if_neg c,if_neg c];grind
 ·rw [h3]
  exact O9 fun c r hc hr=>by dsimp only;rw [if_neg (by omega),C5r]
 ·dsimp only
  by_cases c:j=a
  ·rw [if_pos c,if_pos c,h4 i j hki hi hj,h4 i b hki hi hb];grind
  ·rw [if_neg c,if_neg c,h4 i j hki hi hj];grind
 ·by_cases c:j=a
  ·rw [if_pos c,if_pos c,Rat.intCast_add,h.val i a hki hi ha,h.val i b hki hi hb,c];grind
  ·rw [if_neg c,if_neg c,h.val i j hki hi hj];grind
theorem C1f{A:Nat->Nat->Rat}{n:Nat}{x:Nat->Rat}(h:∀ m,m<n->sm n (fun i=>ldL A i m*x i)=0):∀ t j,j<n->n-j<=t->x j=0:=by
 intro t
 induction t with
 | zero=>intro j hj h;omega
 | succ t ih=>
  intro j hj ht
  have:=h j hj
  rw [Ch hj fun i hi c=>?_,Zf,Rat.one_mul] at this
  ·exact this
  ·by_cases c':i<j
   ·rw [Tc c',Rat.zero_mul]
   ·rw [ih i hi (by omega),C5t]
theorem B95{A:Nat->Nat->Rat}{n:Nat}(hs:Ve n A)(hok:∀ m,m<n->Js A n m):Diag n A (ldD A) (fun m i=>ldL A i m):=by
 refine ⟨fun x=>?_,fun x hx j hj=>C1f hx n j hj (by omega)⟩
 rw [A4l hs (C5q n) hok]
 have z:=Fm hs n (C5q n) hok
 have e:qf n (ldA A n) x=0:=S8 fun i hi=>by
  rw [S8 fun j hj=>by rw [z i j hi hj (.inl hi),Rat.zero_mul],C5t]
 rw [e,C5r]
 rfl
theorem Diag.nneg_pos{n:Nat}{A:Nat->Nat->Rat}{d:Nat->Rat}{F:Nat->Nat->Rat}(D:Diag n A d F){x:Nat->Rat}(h:qf n A x<0):Fa d n≠0:=by
 intro e
 have all:∀ k,Fa d k=0->∀ m,m<k->0<=d m:=by
  intro k
  induction k with
  | zero=>intro _ m hm;omega
  | succ k ih=>
   intro e m hm
   have e':Fa d k+(if d k<0 then 1 else 0)=0:=e
   by_cases c:d k<0
   ·rw [if_pos c] at e';omega
   ·by_cases c':m=k
    ·rw [c'];grind
    ·exact ih (by omega) m (by omega)
 rw [D.val] at h
 have:0<=sm n fun m=>d m*(ev n (F m) x*ev n (F m) x):=Sh fun m hm=>Rat.mul_nonneg (all n e m hm) (Sg _)
 grind
end Go.Proofs.YtajkakhfcokljaaGreatDoor
