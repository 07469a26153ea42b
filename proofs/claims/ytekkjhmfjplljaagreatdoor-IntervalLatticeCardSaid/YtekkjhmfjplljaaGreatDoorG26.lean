/-
  Texts of this proof, merged by a program of ours: NumO, IvA, CardA, IvB, IvC, IvD, IvE.
-/
import Derived.Test.YtekkjhmfjplljaaGreatDoorG15
import Derived.Test.YtekkjhmfjplljaaGreatDoorG25
import Derived.Test.YtekkjhmfjplljaaGreatDoorG16
import Derived.Test.YtekkjhmfjplljaaGreatDoorG23
import Derived.Test.YtekkjhmfjplljaaGreatDoorG24
import Derived.Test.YtekkjhmfjplljaaGreatDoorRows
import Derived.Below
import Derived.ChangeSame
import Derived.WideShapes
import Derived.LaidLaws
import Derived.Lib.LaidTab
/-
  Shift to the left.
-/
namespace Go.Proofs.YtekkjhmfjplljaaGreatDoor
open Go
set_option maxRecDepth 20000
section
variable {h h' : Heap} {K : Value -> Heap -> Prop} {A B : Option Addr} {n c n' c' : Nat} {s s' : Bool} {x y z : Int} {m : Nat}
end
end Go.Proofs.YtekkjhmfjplljaaGreatDoor
/-
  Intervals: what the functions of package interval return.
-/
namespace Go.Proofs.YtekkjhmfjplljaaGreatDoor
open Go
set_option maxRecDepth 20000
def LawK (h : Heap) (r : Value) (h' : Heap) : Prop := r = .bool true /\ h.le h'
theorem rv_sz {x : List UInt8} {k : Nat} (hl : x.length <= k) (hk : 1 <= k) : Sz (4 * k) (rv x) := by
  by_cases hn : IsNum x
  . obtain ⟨neg, a, b, f⟩ := hn.form
    obtain ⟨h1, h2⟩ := f.rv_num hn
    have hlen := f.lens
    have habs : (fNum neg a).natAbs = dval a := by unfold fNum; split <;> simp
    refine ⟨?_, ?_⟩
    . rw [h1]; exact (dval_zb f.da (k := k) (by omega)).le (by rw [habs, Int.natAbs_natCast]; exact Nat.le_refl _)
    . rw [h2]
      unfold fDen
      split
      . exact ZB.one (by omega)
      . exact dval_zb f.db (by omega)
  . rw [rv_not hn]; exact Sz.zero (by omega)
theorem Tx.short {x : List UInt8} {k : Nat} (hl : x.length <= k) (hk : 1 <= k) (hk2 : k <= 100000000) : Tx (4 * k) x := ⟨by omega, rv_sz hl hk⟩
theorem Tx.mono {m n : Nat} {x : List UInt8} (t : Tx m x) (h : m <= n) : Tx n x := ⟨t.len, t.sz.mono h⟩
def IvOk (lo hi : List UInt8) : Prop := ∃ p q, lo = txtQ p /\ hi = txtQ q /\ p <= q
abbrev ivT (lo hi : List UInt8) : Value := .agg #[.string (bs lo), .string (bs hi)]
abbrev ivS (p q : Rat) : Value := ivT (txtQ p) (txtQ q)
theorem mnL_mem (l : List Rat) : ∀ p, mnL p l = p \/ mnL p l ∈ l := by
  induction l with
  | nil => intro p; exact .inl rfl
  | cons q l ih =>
    intro p
    rw [mnL_cons]
    rcases ih (mn p q) with h | h
    . rcases mn_or p q with e | e
      . rw [h, e]; exact .inl rfl
      . rw [h, e]; exact .inr (by simp)
    . exact .inr (by simp [h])
theorem mxL_mem (l : List Rat) : ∀ p, mxL p l = p \/ mxL p l ∈ l := by
  induction l with
  | nil => intro p; exact .inl rfl
  | cons q l ih =>
    intro p
    rw [mxL_cons]
    rcases ih (mx p q) with h | h
    . rcases mx_or p q with e | e
      . rw [h, e]; exact .inl rfl
      . rw [h, e]; exact .inr (by simp)
    . exact .inr (by simp [h])
theorem Sz.mnL {m : Nat} {p : Rat} {l : List Rat} (hp : Sz m p) (hl : ∀ q ∈ l, Sz m q) : Sz m (mnL p l) := by
  rcases mnL_mem l p with e | e
  . rw [e]; exact hp
  . exact hl _ e
theorem Sz.mxL {m : Nat} {p : Rat} {l : List Rat} (hp : Sz m p) (hl : ∀ q ∈ l, Sz m q) : Sz m (mxL p l) := by
  rcases mxL_mem l p with e | e
  . rw [e]; exact hp
  . exact hl _ e
section
variable {h : Heap} {K : Value -> Heap -> Prop} {m : Nat} {lo hi x : List UInt8} {p q r s : Rat}
theorem least_spec {qs : List Rat} {A : Option Addr} {n c : Nat} (gl : Gl h) (hn : n = qs.length) (sl : SlV h A (qs.map fun q => Value.string (bs (txtQ q)))) (hp : Sz m p) (hq : ∀ q ∈ qs, Sz m q) (hm : m <= 10000000) (hl : qs.length <= 1000)
    (hK : K (.string (bs (txtQ (mnL p qs)))) h) : FCall Tryz.prog f_IvLeast #[.string (bs (txtQ p)), .slice A n c] h K := by
  subst hn
  refine IvLeast_ok _ _ _ _ ?_
  unfold IvLeast
  refine ⟨fun L hp => hp = h /\ ∃ i : Nat, i <= qs.length /\ L = [.string (bs (txtQ (mnL p (qs.take i)))), I i], fun L _ => (qs.length - (iAt L 1).toNat), ⟨rfl, 0, Nat.zero_le _, rfl⟩, ?_⟩
  rintro f t9 hp1 ⟨rfl, i, hi, hL⟩
  simp only [List.cons.injEq, Value.string.injEq, Value.int.injEq, true_and, and_true] at hL
  obtain ⟨rfl, rfl⟩ := hL
  have sz : Sz m (mnL p (qs.take i)) := hp.mnL fun q h => hq q (List.mem_of_mem_take h)
  refine Br.dec (fun e => ?_) (fun e => ?_)
  . have hi' : i < qs.length := by omega
    obtain ⟨a, ha, hc⟩ := SlV.at sl (i := i) (by simpa using hi')
    refine ⟨a, ha, by omega, e, bs (txtQ qs[i]), ?_, ?_⟩
    . rw [Int.toNat_natCast, Nat.mul_one, hc]; simp
    have hstep : mnL p (qs.take (i + 1)) = mn (mnL p (qs.take i)) qs[i] := by rw [List.take_succ_eq_append_getElem hi', mnL_snoc]
    have szi := hq qs[i] (List.getElem_mem hi')
    refine tcompare_spec gl (Tx.of szi (by omega)) (Tx.of sz (by omega)) (by omega) ⟨_, rfl, ?_⟩
    rw [rv_txt, rv_txt, wi64_id (by omega) (by omega)]
    refine Br.dec (fun h1 => ⟨⟨rfl, i + 1, hi', ?_⟩, ?_⟩) (fun h1 => ⟨⟨rfl, i + 1, hi', ?_⟩, ?_⟩)
    . rw [hstep, mn, if_pos (cmpQ_lt.1 h1)]; rfl
    . simp [iAt]; omega
    . rw [hstep, mn, if_neg (fun h2 => h1 (cmpQ_lt.2 h2))]; rfl
    . simp [iAt]; omega
  . obtain rfl : i = qs.length := by omega
    rw [List.take_length]; exact hK
theorem greatest_spec {qs : List Rat} {A : Option Addr} {n c : Nat} (gl : Gl h) (hn : n = qs.length) (sl : SlV h A (qs.map fun q => Value.string (bs (txtQ q)))) (hp : Sz m p) (hq : ∀ q ∈ qs, Sz m q) (hm : m <= 10000000) (hl : qs.length <= 1000)
    (hK : K (.string (bs (txtQ (mxL p qs)))) h) : FCall Tryz.prog f_IvGreatest #[.string (bs (txtQ p)), .slice A n c] h K := by
  subst hn
  refine IvGreatest_ok _ _ _ _ ?_
  unfold IvGreatest
  refine ⟨fun L hp => hp = h /\ ∃ i : Nat, i <= qs.length /\ L = [.string (bs (txtQ (mxL p (qs.take i)))), I i], fun L _ => (qs.length - (iAt L 1).toNat), ⟨rfl, 0, Nat.zero_le _, rfl⟩, ?_⟩
  rintro f t9 hp1 ⟨rfl, i, hi, hL⟩
  simp only [List.cons.injEq, Value.string.injEq, Value.int.injEq, true_and, and_true] at hL
  obtain ⟨rfl, rfl⟩ := hL
  have sz : Sz m (mxL p (qs.take i)) := hp.mxL fun q h => hq q (List.mem_of_mem_take h)
  refine Br.dec (fun e => ?_) (fun e => ?_)
  . have hi' : i < qs.length := by omega
    obtain ⟨a, ha, hc⟩ := SlV.at sl (i := i) (by simpa using hi')
    refine ⟨a, ha, by omega, e, bs (txtQ qs[i]), ?_, ?_⟩
    . rw [Int.toNat_natCast, Nat.mul_one, hc]; simp
    have hstep : mxL p (qs.take (i + 1)) = mx (mxL p (qs.take i)) qs[i] := by rw [List.take_succ_eq_append_getElem hi', mxL_snoc]
    have szi := hq qs[i] (List.getElem_mem hi')
    refine tcompare_spec gl (Tx.of szi (by omega)) (Tx.of sz (by omega)) (by omega) ⟨_, rfl, ?_⟩
    rw [rv_txt, rv_txt, wi64_id (by omega) (by omega)]
    refine Br.dec (fun h1 => ⟨⟨rfl, i + 1, hi', ?_⟩, ?_⟩) (fun h1 => ⟨⟨rfl, i + 1, hi', ?_⟩, ?_⟩)
    . rw [hstep, mx, if_pos (cmpQ_gt.1 h1)]; rfl
    . simp [iAt]; omega
    . rw [hstep, mx, if_neg (fun h2 => h1 (cmpQ_gt.2 h2))]; rfl
    . simp [iAt]; omega
  . obtain rfl : i = qs.length := by omega
    rw [List.take_length]; exact hK
theorem ivspan_spec {qs : List Rat} {A : Option Addr} {n c : Nat} (gl : Gl h) (hn : n = qs.length) (sl : SlV h A (qs.map fun q => Value.string (bs (txtQ q)))) (hp : Sz m p) (hq : ∀ q ∈ qs, Sz m q) (hm : m <= 10000000) (hl : qs.length <= 1000)
    (hK : K (ivS (mnL p qs) (mxL p qs)) h) : FCall Tryz.prog f_IvSpan #[.string (bs (txtQ p)), .slice A n c] h K := by
  refine IvSpan_ok _ _ _ _ ?_
  unfold IvSpan
  exact least_spec gl hn sl hp hq hm hl ⟨_, rfl, greatest_spec gl hn sl hp hq hm hl ⟨_, rfl, hK⟩⟩
theorem spanLit {qs : List Rat} {K2 : Value -> Heap -> Prop} {n : Nat} {ps : Array (Nat × Value)} (gl : Gl h) (hn : n = qs.length) (hps : ps.toList = (List.range' 0 (qs.map fun q => Value.string (bs (txtQ q))).length).zip (qs.map fun q => Value.string (bs (txtQ q)))) (hp : Sz m p) (hq : ∀ q ∈ qs, Sz m q) (hm : m <= 10000000) (hl : qs.length <= 1000)
    (hK : ∀ h', h.le h' -> K2 (ivS (mnL p qs) (mxL p qs)) h') : wpH Tryz.prog (Instr.buildSlice ty_tStrings n ps) (fun v hp => ∃ (A : Option Addr) (n c : Nat), v = .slice A n c /\ FCall Tryz.prog f_IvSpan #[.string (bs (txtQ p)), .slice A n c] hp (fun r4 hp5 => ∃ (t260 : ByteArray) (t261 : ByteArray), r4 = .agg #[.string t260, .string t261] /\ K2 (.agg #[.string t260, .string t261]) hp5)) h := by
  have e : (qs.map txtQ).map (fun l => Value.string (bs l)) = qs.map fun q => Value.string (bs (txtQ q)) := by simp
  refine litS_ok tStrings (ls := qs.map txtQ) (by simpa using hn) (by omega) (by rw [e]; exact hps) ?_
  intro b h' l' sl
  rw [e] at sl
  exact ⟨_, _, _, rfl, ivspan_spec (gl.mono l') hn sl hp hq hm hl ⟨_, _, rfl, hK h' l'⟩⟩
theorem ivalid_spec (gl : Gl h) (ta : Tx m lo) (tb : Tx m hi) (hm : m <= 1000000000) (hK1 : ∀ p q, lo = txtQ p -> hi = txtQ q -> p <= q -> K (.bool true) h) (hK0 : ¬ IvOk lo hi -> K (.bool false) h) : FCall Tryz.prog f_IvValid #[ivT lo hi] h K := by
  refine IvValid_ok _ _ ?_
  unfold IvValid
  refine valid_spec gl ta.len (fun hn => ⟨_, rfl, ?_⟩) (fun hn => ⟨_, rfl, hK0 fun ⟨p, q, e, _⟩ => hn ⟨p, e⟩⟩)
  obtain ⟨p, rfl⟩ := hn
  refine valid_spec gl tb.len (fun hn => ⟨_, rfl, ?_⟩) (fun hn => ⟨_, rfl, hK0 fun ⟨p, q, _, e, _⟩ => hn ⟨q, e⟩⟩)
  obtain ⟨q, rfl⟩ := hn
  refine tcompare_spec gl ta tb (by omega) ⟨_, rfl, ?_⟩
  rw [rv_txt, rv_txt]
  by_cases hc : p <= q
  . rw [decide_eq_true (cmpQ_le.2 hc)]; exact hK1 p q rfl rfl hc
  . rw [decide_eq_false (fun e => hc (cmpQ_le.1 e))]
    refine hK0 ?_
    rintro ⟨p', q', e1, e2, e3⟩
    rw [txtQ_inj e1, txtQ_inj e2] at hc; exact hc e3
theorem half_txt : txtQ (1 / 2) = [49, 47, 50] := by
  have h1 : (1 / 2 : Rat).num = 1 := by decide +kernel
  have h2 : (1 / 2 : Rat).den = 2 := by decide +kernel
  simp [txtQ, txtI, h1, h2, digs, dd_pos, dd_zero, dch]
theorem two_txt : txtQ 2 = [50] := by
  have h1 : (2 : Rat).num = 2 := rfl
  have h2 : (2 : Rat).den = 1 := rfl
  simp [txtQ, txtI, h1, h2, digs, dd_pos, dd_zero, dch]
theorem two_sz : Sz 2 2 := ⟨by unfold ZB; decide +kernel, by unfold ZB; decide +kernel⟩
theorem imul1_spec (gl : Gl h) (hp : Sz m p) (hq : Sz m q) (hr : Sz m r) (hs : Sz m s) (hm : m <= 1000000) (hK : K (ivS (mulLo p q r s) (mulHi p q r s)) h) : FCall Tryz.prog f_IvMul1 #[ivS p q, ivS r s] h K := by
  refine FCall.pure (IvMul1_ok _ _ _ _ ?_)
  unfold IvMul1
  refine tmul_spec gl (Tx.of hp (by omega)) (Tx.of hr (by omega)) (by omega) ⟨_, rfl, Heap.le_refl _, ?_⟩
  refine tmul_spec gl (Tx.of hp (by omega)) (Tx.of hs (by omega)) (by omega) ⟨_, rfl, Heap.le_refl _, ?_⟩
  refine tmul_spec gl (Tx.of hq (by omega)) (Tx.of hr (by omega)) (by omega) ⟨_, rfl, Heap.le_refl _, ?_⟩
  refine tmul_spec gl (Tx.of hq (by omega)) (Tx.of hs (by omega)) (by omega) ⟨_, rfl, Heap.le_refl _, ?_⟩
  rw [rv_txt, rv_txt, rv_txt, rv_txt]
  have s1 := (hp.mul hr)
  have hall : ∀ t ∈ [p * s, q * r, q * s], Sz (m + m) t := by
    intro t ht
    simp only [List.mem_cons, List.not_mem_nil, or_false] at ht
    rcases ht with rfl | rfl | rfl
    . exact hp.mul hs
    . exact hq.mul hr
    . exact hq.mul hs
  refine litS_ok tStrings (ls := [txtQ (p * s), txtQ (q * r), txtQ (q * s)]) rfl (by simp) rfl ?_
  intro b h' l' sl
  refine ⟨_, _, _, rfl, l', ?_⟩
  refine ivspan_spec (qs := [p * s, q * r, q * s]) (gl.mono l') rfl sl s1 hall (by omega) (by simp) ⟨_, _, rfl, Heap.le_refl _, l', hK⟩
theorem sgnQ_lt {q : Rat} : q.num.sign < 0 ↔ q < 0 := by rw [Int.sign_neg_iff, Rat.lt_iff]; simp
theorem sgnQ_gt {q : Rat} : 0 < q.num.sign ↔ 0 < q := by rw [Int.sign_pos_iff, Rat.lt_iff]; simp
theorem ipow1_spec {k : Nat} (gl : Gl h) (hp : Sz m p) (hq : Sz m q) (hm1 : 1 <= m) (hk : k <= 1000) (hm : m * k + 1 <= 1000000) (hmm : m <= 1000000) (hK : K (ivS (powLo p q k) (powHi p q k)) h) : FCall Tryz.prog f_IvPow1 #[ivS p q, I (k : Int)] h K := by
  refine FCall.pure (IvPow1_ok _ _ _ ?_)
  unfold IvPow1
  have e0 : ({ data := #[48] } : ByteArray) = bs (txtQ 0) := by rw [txtQ0]; rfl
  refine tpow_spec gl (Tx.of hp (by omega)) hm1 (by simpa using (show m * k + 1 <= 40000000 by omega)) (by omega) ?_ (fun _ h2 => by omega) (fun h2 => by omega)
  intro _ _ _
  refine ⟨_, _, rfl, ?_⟩
  refine tpow_spec gl (Tx.of hq (by omega)) hm1 (by simpa using (show m * k + 1 <= 40000000 by omega)) (by omega) ?_ (fun _ h2 => by omega) (fun h2 => by omega)
  intro _ _ _
  refine ⟨_, _, rfl, ?_⟩
  rw [rv_txt, rv_txt, Int.natAbs_natCast]
  have sp := hp.pow hm1 k
  have sq := hq.pow hm1 k
  have plain : ¬ (0 < k /\ k % 2 = 0 /\ p < 0 /\ 0 < q) -> wpH Tryz.prog (Instr.buildSlice ty_tStrings 1 #[(0, .string (bs (txtQ (q ^ k))))]) (fun v hp => ∃ (A : Option Addr) (n c : Nat), v = .slice A n c /\ FCall Tryz.prog f_IvSpan #[.string (bs (txtQ (p ^ k))), .slice A n c] hp (fun r4 hp5 => ∃ (t260 : ByteArray) (t261 : ByteArray), r4 = .agg #[.string t260, .string t261] /\ h.le hp5 /\ K (.agg #[.string t260, .string t261]) h)) h := by
    intro hn
    refine spanLit (K2 := fun r h' => h.le h' /\ K r h) (qs := [q ^ k]) gl rfl rfl sp (fun t ht => by simp at ht; subst ht; exact sq) (by omega) (by simp) (fun h' l' => ⟨l', ?_⟩)
    unfold powLo powHi at hK
    rw [if_neg hn, if_neg hn] at hK
    exact hK
  have ht : Int.tmod (k : Int) 2 = ((k % 2 : Nat) : Int) := by rw [Int.tmod_eq_emod_of_nonneg (by omega)]; omega
  rw [ht]
  refine Br.dec (fun h1 => ?_) (fun h1 => plain (by omega))
  refine Br.beq (fun h2 => ?_) (fun h2 => plain (by omega))
  refine tsign_spec gl (by have := txtQ_len hp; omega) ⟨_, rfl, ?_⟩
  rw [rv_txt]
  refine Br.dec (fun h3 => ?_) (fun h3 => plain (fun hc => h3 (sgnQ_lt.2 hc.2.2.1)))
  refine tsign_spec gl (by have := txtQ_len hq; omega) ⟨_, rfl, ?_⟩
  rw [rv_txt]
  refine Br.dec (fun h4 => ?_) (fun h4 => plain (fun hc => h4 (sgnQ_gt.2 hc.2.2.2)))
  have hc : 0 < k /\ k % 2 = 0 /\ p < 0 /\ 0 < q := ⟨by omega, by omega, sgnQ_lt.1 h3, sgnQ_gt.1 h4⟩
  rw [e0]
  refine spanLit (m := m * k + 1) (K2 := fun r h' => h.le h' /\ K r h) (qs := [p ^ k, q ^ k]) gl rfl rfl (Sz.zero (by omega)) (fun t ht => by simp at ht; rcases ht with rfl | rfl; exact sp; exact sq) (by omega) (by simp) (fun h' l' => ⟨l', ?_⟩)
  unfold powLo powHi at hK
  rw [if_pos hc, if_pos hc] at hK
  exact hK
abbrev ivE : Value := .agg #[.string (bs []), .string (bs [])]
variable {lo2 hi2 : List UInt8}
theorem imul_spec (gl : Gl h) (ta : Tx m lo) (tb : Tx m hi) (tc : Tx m lo2) (td : Tx m hi2) (hm : m <= 1000000) (hK1 : ∀ p q r s, lo = txtQ p -> hi = txtQ q -> p <= q -> lo2 = txtQ r -> hi2 = txtQ s -> r <= s -> K (.tuple #[ivS (mulLo p q r s) (mulHi p q r s), I 0]) h) (hK0 : ¬ (IvOk lo hi /\ IvOk lo2 hi2) -> K (.tuple #[ivE, I 1]) h) : FCall Tryz.prog f_IvMul #[ivT lo hi, ivT lo2 hi2] h K := by
  refine IvMul_ok _ _ _ _ ?_
  unfold IvMul
  refine ivalid_spec gl ta tb (by omega) (fun p q e1 e2 hle => ⟨_, rfl, ?_⟩) (fun hn => ⟨_, rfl, hK0 fun x => hn x.1⟩)
  refine ivalid_spec gl tc td (by omega) (fun r s e3 e4 hle2 => ⟨_, rfl, ?_⟩) (fun hn => ⟨_, rfl, hK0 fun x => hn x.2⟩)
  have hK := hK1 p q r s e1 e2 hle e3 e4 hle2
  subst e1 e2 e3 e4
  have sa := ta.sz; have sb := tb.sz; have sc := tc.sz; have sd := td.sz
  rw [rv_txt] at sa sb sc sd
  exact imul1_spec gl sa sb sc sd hm ⟨_, _, rfl, hK⟩
theorem ipow_spec {k : Int} (gl : Gl h) (ta : Tx m lo) (tb : Tx m hi) (hm1 : 1 <= m) (hm : m <= 10000) (hK1 : ∀ p q (n : Nat), lo = txtQ p -> hi = txtQ q -> p <= q -> k = n -> n <= 24 -> K (.tuple #[ivS (powLo p q n) (powHi p q n), I 0]) h) (hKr : IvOk lo hi -> (k < 0 \/ 24 < k) -> K (.tuple #[ivE, I 3]) h) (hK0 : ¬ IvOk lo hi -> K (.tuple #[ivE, I 1]) h) : FCall Tryz.prog f_IvPow #[ivT lo hi, I k] h K := by
  refine IvPow_ok _ _ _ ?_
  unfold IvPow
  refine ivalid_spec gl ta tb (by omega) (fun p q e1 e2 hle => ⟨_, rfl, ?_⟩) (fun hn => ⟨_, rfl, hK0 hn⟩)
  refine Br.dec (fun e => hKr ⟨p, q, e1, e2, hle⟩ (.inl e)) (fun h1 => Br.dec (fun e => hKr ⟨p, q, e1, e2, hle⟩ (.inr e)) (fun h2 => ?_))
  obtain ⟨n, rfl⟩ : ∃ n : Nat, k = n := ⟨k.toNat, by omega⟩
  have hK := hK1 p q n e1 e2 hle rfl (by omega)
  subst e1 e2
  have sa := ta.sz; have sb := tb.sz
  rw [rv_txt] at sa sb
  have : m * n <= m * 24 := Nat.mul_le_mul_left m (by omega)
  exact ipow1_spec gl sa sb hm1 (by omega) (by omega) (by omega) ⟨_, _, rfl, hK⟩
theorem rat_pow_add (x : Rat) (a b : Nat) : x ^ (a + b) = x ^ a * x ^ b := by
  induction b with
  | zero => simp [Rat.pow_zero]
  | succ b ih => rw [Nat.add_succ, Rat.pow_succ, ih, Rat.pow_succ, Rat.mul_assoc]
theorem two_pow_sz (k : Nat) : Sz (2 * k + 1) ((2 : Rat) ^ k) := two_sz.pow (by omega) k
theorem two_pow_pos (k : Nat) : (0 : Rat) < 2 ^ k := by
  induction k with
  | zero => rw [Rat.pow_zero]; decide
  | succ k ih => rw [Rat.pow_succ]; exact Rat.mul_pos ih (by decide)
theorem ipower2_spec : ∀ (k : Nat) {K : Value -> Heap -> Prop}, Gl h -> k <= 8192 -> K (.string (bs (txtQ (2 ^ k)))) h -> FCall Tryz.prog f_IvPower2 #[I (k : Int)] h K := by
  intro k
  induction k using Nat.strongRecOn with
  | _ k ih =>
    intro K gl hk hK
    refine IvPower2_ok _ ?_
    unfold IvPower2
    have t50 : rv [50] = 2 := by rw [<- two_txt, rv_txt]
    refine Br.dec (fun h1 => ?_) (fun h1 => ?_)
    . refine tpow_spec (m := 2) (a := [50]) gl ⟨by simp, by rw [t50]; exact two_sz⟩ (by omega) (by omega) (by omega) ?_ ?_ ?_
      . intro _ _ _
        rw [t50, Int.natAbs_natCast]
        exact ⟨_, _, rfl, hK⟩
      . intro _ h2; omega
      . intro h2; omega
    . have e1 : wi64 (Int.tdiv (k : Int) 2) = ((k / 2 : Nat) : Int) := by
        rw [Int.tdiv_eq_ediv_of_nonneg (by omega), wi64_id (by omega) (by omega)]; omega
      have e2 : wi64 ((k : Int) - ((k / 2 : Nat) : Int)) = ((k - k / 2 : Nat) : Int) := by rw [wi64_id (by omega) (by omega)]; omega
      rw [e1, e2]
      refine ih (k / 2) (by omega) gl (by omega) ⟨_, rfl, ih (k - k / 2) (by omega) gl (by omega) ⟨_, rfl, ?_⟩⟩
      refine tmul_spec (m := 2 * k + 1) gl (Tx.of ((two_pow_sz _).mono (by omega)) (by omega)) (Tx.of ((two_pow_sz _).mono (by omega)) (by omega)) (by omega) ⟨_, rfl, ?_⟩
      rw [rv_txt, rv_txt, <- rat_pow_add, show k / 2 + (k - k / 2) = k by omega]
      exact hK
theorem txtI_q (z : Int) : txtI z = txtQ (z : Rat) := by simp [txtQ]
theorem iround_spec {bits : Int} (gl : Gl h) (ta : Tx m lo) (tb : Tx m hi) (hm1 : 1 <= m) (hm : m <= 10000)
    (hK1 : ∀ p q (k : Nat), lo = txtQ p -> hi = txtQ q -> p <= q -> bits = k -> k <= 4096 -> K (.tuple #[ivS ((((p * 2 ^ k).floor : Int) : Rat) / 2 ^ k) ((((q * 2 ^ k).ceil : Int) : Rat) / 2 ^ k), I 0]) h)
    (hKr : IvOk lo hi -> (bits < 0 \/ 4096 < bits) -> K (.tuple #[ivE, I 3]) h) (hK0 : ¬ IvOk lo hi -> K (.tuple #[ivE, I 1]) h) : FCall Tryz.prog f_IvRoundOut #[ivT lo hi, I bits] h K := by
  refine IvRoundOut_ok _ _ _ ?_
  unfold IvRoundOut
  refine ivalid_spec gl ta tb (by omega) (fun p q e1 e2 hle => ⟨_, rfl, ?_⟩) (fun hn => ⟨_, rfl, hK0 hn⟩)
  refine Br.dec (fun e => hKr ⟨p, q, e1, e2, hle⟩ (.inl e)) (fun h1 => Br.dec (fun e => hKr ⟨p, q, e1, e2, hle⟩ (.inr e)) (fun h2 => ?_))
  obtain ⟨k, rfl⟩ : ∃ k : Nat, bits = k := ⟨bits.toNat, by omega⟩
  have hK := hK1 p q k e1 e2 hle rfl (by omega)
  subst e1 e2
  have sa := ta.sz; have sb := tb.sz
  rw [rv_txt] at sa sb
  have s2 := (two_pow_sz k).mono (show 2 * k + 1 <= 10000 by omega)
  have hne : (2 : Rat) ^ k ≠ 0 := fun e => by have := two_pow_pos k; rw [e] at this; exact absurd this (by decide)
  refine ipower2_spec k gl (by omega) ⟨_, rfl, ?_⟩
  refine tmul_spec (m := 10000) gl (Tx.of (sa.mono (by omega)) (by omega)) (Tx.of s2 (by omega)) (by omega) ⟨_, rfl, ?_⟩
  rw [rv_txt, rv_txt]
  have sp := (sa.mul s2).mono (show m + 10000 <= 20000 by omega)
  have sq := (sb.mul s2).mono (show m + 10000 <= 20000 by omega)
  refine tfloor_spec (m := 20000) gl (Tx.of sp (by omega)) (by omega) ⟨_, rfl, ?_⟩
  rw [rv_txt, txtI_q]
  have sf := Sz.int (floor_zb sp) (by omega)
  have sc : Sz 20000 (((q * 2 ^ k).ceil : Int) : Rat) := by
    refine Sz.int ?_ (by omega)
    rw [Rat.ceil_eq_neg_floor_neg]
    exact (floor_zb sq.neg).neg
  refine tdiv_spec (m := 20000) gl (Tx.of sf (by omega)) (Tx.of (s2.mono (by omega)) (by omega)) (by omega) (by omega) ?_ (fun e => absurd e (by rw [rv_txt]; exact hne))
  intro _
  rw [rv_txt, rv_txt]
  refine ⟨_, _, rfl, ?_⟩
  refine tmul_spec (m := 10000) gl (Tx.of (sb.mono (by omega)) (by omega)) (Tx.of s2 (by omega)) (by omega) ⟨_, rfl, ?_⟩
  rw [rv_txt, rv_txt]
  refine tceil_spec (m := 20000) gl (Tx.of sq (by omega)) (by omega) ⟨_, rfl, ?_⟩
  rw [rv_txt, txtI_q]
  refine tdiv_spec (m := 20000) gl (Tx.of sc (by omega)) (Tx.of (s2.mono (by omega)) (by omega)) (by omega) (by omega) ?_ (fun e => absurd e (by rw [rv_txt]; exact hne))
  intro _
  rw [rv_txt, rv_txt]
  exact ⟨_, _, rfl, hK⟩
end
end Go.Proofs.YtekkjhmfjplljaaGreatDoor
/-
  From the world of a statement to the visible heap of the walks; the tables that the statement lists.
-/
namespace Go.Proofs.YtekkjhmfjplljaaGreatDoor
open Go Go.RowKit
set_option maxRecDepth 20000
def memOf (W : World) : Heap := fun b => W.heap[b]?
theorem frame_of {P : Program} {f : FuncId} {args : Array Value} {W : World} (x : FCall P f args (memOf W) (LawK (memOf W))) : Calls P f args W fun e w' => e = .returned (.bool true) /\ Below W.heap.size W w' := by
  refine (x W (fun b o e => e)).mono ?_
  rintro e W' ⟨r, h', he, ⟨hr, hle⟩, fr⟩
  subst hr
  refine ⟨he, fr.os, fr.tape, fr.output, fr.size, fun k hk => ?_⟩
  have e0 : memOf W k = some W.heap[k] := Array.getElem?_eq_getElem hk
  have := fr.sim k _ (hle k _ e0)
  rw [this]; exact e0.symm
theorem memOf_cell {W : World} {a : Addr} {v : Value} (e : W.cell? a = some v) : (memOf W).cell? a = some v := by
  unfold World.cell? at e
  unfold Heap.cell? memOf
  exact e
theorem open_ss {H : Type} {enc : TypeId × Value -> H} {P : Program} {W : World} {base : Nat} {sp : Nat -> Bool} {held : Bool} {r : Reach} {b0 : Nat} {t : TypeId} {f0 f1 : Field} {v : Value} {d : DataW H} {ps : List MemPlace} (ht : P.underlying t = some (.struct #[f0, f1])) (u0 : P.underlying f0.type = some .string) (u1 : P.underlying f1.type = some .string) (hoff : f0.offset = 0 /\ f1.offset = 1 /\ P.cellsOf f0.type = 1 /\ P.cellsOf f1.type = 1 /\ P.cellsOf t = 2)
    (hval : Value.okWide P W r b0 t v) (hd : DataW.Trod enc P W base sp held t v d ps) : ∃ x y : ByteArray, v = .agg #[.string x, .string y] /\ d = .agg [.lit (.string x.data.toList), .lit (.string y.data.toList)] /\ ps = [] /\ x.size <= maxLen /\ y.size <= maxLen := by
  obtain ⟨o0, o1, c0, c1, ct⟩ := hoff
  obtain ⟨cs, rfl, hcs⟩ := WideShapes.okWide_struct ht hval
  obtain ⟨fuel, hf⟩ := hd
  obtain ⟨y0, y1, n, hx, hl, g0, g1⟩ := ChangeShapes.trod_struct2 ht hf
  rw [o0, c0] at g0
  rw [o1, c1] at g1
  obtain ⟨s0, e0, rfl, z0⟩ := DataW.trod_string u0 g0
  obtain ⟨s1, e1, rfl, z1⟩ := DataW.trod_string u1 g1
  rw [ct] at hcs
  have hcl : cs.toList = [.string s0, .string s1] := by
    simp only [Value.cells] at e0 e1
    have hlen : cs.toList.length = 2 := by simpa using hcs
    match hm : cs.toList, hlen with
    | [p, q], _ =>
      rw [hm] at e0 e1
      simp at e0 e1
      rw [e0, e1]
  have : cs = #[.string s0, .string s1] := by rw [<- Array.toArray_toList (xs := cs), hcl]
  subst this
  simp only [Prod.mk.injEq] at hx
  exact ⟨s0, s1, rfl, hx.1, by simpa using hx.2, z0, z1⟩
theorem laidTail {P : Program} {W : World} {x : String × DataW Unit} {rest : List (String × DataW Unit)} (h : laidMet P (x :: rest) W) : laidMet P rest W := by
  obtain ⟨n, d⟩ := x
  obtain ⟨ps, ⟨g, t, cs, fuel, p, q, h1, h2, h3, h4, h5, rfl⟩, h6, h7⟩ := h
  exact ⟨q, h5, (List.nodup_append.1 h6).2.1, fun b off hb => h7 b off (List.mem_append_right _ hb)⟩
def tab32 : List Int := [0, 1, 28, 2, 29, 14, 24, 3, 30, 22, 20, 15, 25, 17, 4, 8, 31, 27, 13, 23, 21, 19, 16, 7, 26, 12, 18, 6, 11, 5, 10, 9]
def tab64 : List Int := [0, 1, 56, 2, 57, 49, 28, 3, 61, 58, 42, 50, 38, 29, 17, 4, 62, 47, 59, 36, 45, 43, 51, 22, 53, 39, 33, 30, 24, 18, 12, 5, 63, 55, 48, 27, 60, 41, 37, 16, 46, 35, 44, 21, 52, 32, 23, 11, 54, 26, 40, 15, 34, 20, 31, 10, 25, 14, 19, 9, 13, 8, 7, 6]
def tab10 : List Int := [1, 10, 100, 1000, 10000, 100000, 1000000, 10000000, 100000000, 1000000000, 10000000000, 100000000000, 1000000000000, 10000000000000, 100000000000000, 1000000000000000, 10000000000000000, 100000000000000000, 1000000000000000000, 10000000000000000000]
theorem gTab64 : Tryz.prog.globalNamed "math/bits.deBruijn64tab" = some 1 := by kernel_rfl
theorem gTab10 : Tryz.prog.globalNamed "internal/strconv.uint64pow10" = some 0 := by kernel_rfl
theorem tabs_gl {W : World} (h : laidMet Tryz.prog [("math/bits.deBruijn32tab", Rows.laid_math_bits_deBruijn32tab), ("math/bits.deBruijn64tab", Rows.laid_math_bits_deBruijn64tab), ("internal/strconv.uint64pow10", Rows.laid_internal_strconv_uint64pow10)] W) : Gl (memOf W) := by
  have h2 := laidTail h
  have h3 := laidTail h2
  have t64 : Lib.TabIs Tryz.prog W "math/bits.deBruijn64tab" .u8 tab64 := Lib.tabIs_of_head (rest := [("internal/strconv.uint64pow10", Rows.laid_internal_strconv_uint64pow10)]) gTab64 (by kernel_rfl) Tryz.underlying263 Tryz.underlying5 (by kernel_rfl) (by kernel_rfl) h2
  have t10 : Lib.TabIs Tryz.prog W "internal/strconv.uint64pow10" .u64 tab10 := Lib.tabIs_of_head (rest := []) gTab10 (by kernel_rfl) Tryz.underlying253 Tryz.underlying149 (by kernel_rfl) (by kernel_rfl) h3
  have k64 : ∀ k, k < 64 -> tzIdx k < tab64.length /\ tab64.getD (tzIdx k) 0 = (k : Int) := by decide +kernel
  have k10 : ∀ k, k < 20 -> tab10.getD k 0 = ((10 ^ k : Nat) : Int) := by decide +kernel
  refine ⟨fun k hk => ?_, fun k hk => ?_⟩
  . obtain ⟨a, b⟩ := k64 k hk
    have := memOf_cell (t64.cell gTab64 (tzIdx k) a)
    rw [add_at, Nat.mul_one, Nat.zero_add, this, b]
  . have := memOf_cell (t10.cell gTab10 k (by show k < 20; exact hk))
    rw [add_at, Nat.mul_one, Nat.zero_add, this, k10 k hk]
def layTab (zs : List Int) (k : IntKind) : Obj -> Obj
  | .cells _ t frozen => .cells (zs.map (Value.int k)).toArray t frozen
  | o => o
def layTabs (a : Array Obj) : Array Obj := ((a.modify 4 (layTab tab32 .u8)).modify 1 (layTab tab64 .u8)).modify 0 (layTab tab10 .u64)
end Go.Proofs.YtekkjhmfjplljaaGreatDoor
/-
  Intervals: what the functions of the reference return.
-/
namespace Go.Proofs.YtekkjhmfjplljaaGreatDoor
open Go
set_option maxRecDepth 20000
abbrev iv8 (a b : QV) : Value := .agg #[.bool a.s, .slice a.A a.n a.c, .bool a.s2, .slice a.A2 a.n2 a.c2, .bool b.s, .slice b.A b.n b.c, .bool b.s2, .slice b.A2 b.n2 b.c2]
def qcells (w : QV) : List Value := [.bool w.s, .slice w.A w.n w.c, .bool w.s2, .slice w.A2 w.n2 w.c2]
structure QsAt (h : Heap) (A : Option Addr) (ws : List QV) (ps : List Rat) : Prop where
  len : ws.length = ps.length
  num : ∀ (i : Nat) (h1 : i < ws.length) (h2 : i < ps.length), NQ h ws[i] ps[i]
  sl : SlV h A (ws.flatMap qcells)
theorem qflat_len (ws : List QV) : (ws.flatMap qcells).length = ws.length * 4 := by
  induction ws with
  | nil => rfl
  | cons w ws ih => rw [List.flatMap_cons, List.length_append, ih, List.length_cons]; simp [qcells]; omega
theorem qflat_at (ws : List QV) : ∀ {i : Nat} (hi : i < ws.length) {j : Nat} (hj : j < 4), (ws.flatMap qcells)[i * 4 + j]? = (qcells ws[i])[j]? := by
  induction ws with
  | nil => intro i hi; simp at hi
  | cons w ws ih =>
    intro i hi j hj
    rw [List.flatMap_cons]
    cases i with
    | zero => rw [List.getElem?_append_left (by simp [qcells]; omega)]; simp
    | succ i =>
      rw [List.getElem?_append_right (by simp [qcells]; omega)]
      have := ih (i := i) (by simpa using hi) hj
      simp only [List.getElem_cons_succ]
      rw [<- this]
      congr 1
      simp [qcells]; omega
theorem QsAt.at {h : Heap} {A : Option Addr} {ws : List QV} {ps : List Rat} (q : QsAt h A ws ps) {i : Nat} (hi : i < ps.length) : ∃ a w, A = some a /\ NQ h w ps[i] /\ Heap.cell? h (Addr.add (Addr.add a (i * 4)) 0) = some (.bool w.s) /\ Heap.cell? h (Addr.add (Addr.add a (i * 4)) 1) = some (.slice w.A w.n w.c) /\ Heap.cell? h (Addr.add (Addr.add a (i * 4)) 2) = some (.bool w.s2) /\ Heap.cell? h (Addr.add (Addr.add a (i * 4)) 3) = some (.slice w.A2 w.n2 w.c2) := by
  have hw : i < ws.length := by rw [q.len]; exact hi
  have hl := qflat_len ws
  obtain ⟨a, ha, _⟩ := q.sl.at (i := 0) (by omega)
  refine ⟨a, ws[i], ha, q.num i hw hi, ?_⟩
  have cell : ∀ j, j < 4 -> ∀ v, (qcells ws[i])[j]? = some v -> Heap.cell? h (Addr.add (Addr.add a (i * 4)) j) = some v := by
    intro j hj v hv
    obtain ⟨a', ha', hc⟩ := q.sl.at (i := i * 4 + j) (by omega)
    rw [ha] at ha'
    cases ha'
    rw [add_add', hc]
    have := qflat_at ws hw hj
    rw [List.getElem?_eq_getElem (by omega), hv] at this
    exact this
  exact ⟨cell 0 (by omega) _ rfl, cell 1 (by omega) _ rfl, cell 2 (by omega) _ rfl, cell 3 (by omega) _ rfl⟩
theorem sub_lt0 {p q : Rat} : (p - q).num.sign < 0 ↔ p < q := by rw [sgnQ_lt]; constructor <;> intro h <;> grind
theorem sub_gt0 {p q : Rat} : 0 < (p - q).num.sign ↔ q < p := by rw [sgnQ_gt]; constructor <;> intro h <;> grind
theorem sub_le0 {p q : Rat} : (p - q).num.sign <= 0 ↔ p <= q := by rw [<- Rat.not_lt, <- sub_gt0]; omega
section
variable {h : Heap} {K : Value -> Heap -> Prop} {m : Nat} {lo hi x : List UInt8} {p q r s : Rat} {a b c d w : QV}
theorem rfspan_spec {qs : List Rat} {A : Option Addr} {n cc : Nat} {ws : List QV} (sl : QsAt h A ws (p :: qs)) (hn : n = qs.length + 1) (hp : Sz m p) (hq : ∀ q ∈ qs, Sz m q) (hm : m <= 10000000) (hl : qs.length <= 1000)
    (hK : ∀ w1 w2, NQ h w1 (mnL p qs) -> NQ h w2 (mxL p qs) -> K (iv8 w1 w2) h) : FCall Tryz.prog f_RfSpan #[.slice A n cc] h K := by
  subst hn
  refine RfSpan_ok _ _ _ ?_
  unfold RfSpan
  obtain ⟨a, w0, ha, n0, c0, c1, c2, c3⟩ := sl.at (i := 0) (by simp)
  simp only [List.getElem_cons_zero] at n0
  refine ⟨a, ha, by omega, by omega, w0.s, w0.A, w0.n, w0.c, w0.s2, w0.A2, w0.n2, w0.c2, c0, c1, c2, c3, a, ha, by omega, by omega, w0.s, w0.A, w0.n, w0.c, w0.s2, w0.A2, w0.n2, w0.c2, c0, c1, c2, c3, ?_⟩
  refine ⟨fun L hp => hp = h /\ ∃ (i : Nat) (w1 w2 : QV), i <= qs.length /\ NQ h w1 (mnL p (qs.take i)) /\ NQ h w2 (mxL p (qs.take i)) /\ L = I (((i + 1 : Nat) : Int)) :: (qcells w1 ++ qcells w2), fun L _ => qs.length + 1 - (iAt L 0).toNat, ⟨rfl, 0, w0, w0, Nat.zero_le _, n0, n0, rfl⟩, ?_⟩
  rintro t o0 o1A o1n o1c o2 o3A o3n o3c o4 o5A o5n o5c o6 o7A o7n o7c hp1 ⟨rfl, i, w1, w2, hi, i1, i2, hL⟩
  simp only [qcells, List.cons_append, List.nil_append, List.cons.injEq, Value.int.injEq, Value.bool.injEq, Value.slice.injEq, true_and, and_true] at hL
  obtain ⟨rfl, rfl, ⟨rfl, rfl, rfl⟩, rfl, ⟨rfl, rfl, rfl⟩, rfl, ⟨rfl, rfl, rfl⟩, rfl, rfl, rfl, rfl⟩ := hL
  have z1 : Sz m (mnL p (qs.take i)) := hp.mnL fun q h => hq q (List.mem_of_mem_take h)
  have z2 : Sz m (mxL p (qs.take i)) := hp.mxL fun q h => hq q (List.mem_of_mem_take h)
  refine Br.dec (fun e => ?_) (fun e => ?_)
  . have hi' : i < qs.length := by omega
    obtain ⟨a', v, ha', nv, d0, d1, d2, d3⟩ := sl.at (i := i + 1) (by simpa using hi')
    simp only [List.getElem_cons_succ] at nv
    have szi := hq qs[i] (List.getElem_mem hi')
    have h1 : mnL p (qs.take (i + 1)) = mn (mnL p (qs.take i)) qs[i] := by rw [List.take_succ_eq_append_getElem hi', mnL_snoc]
    have h2 : mxL p (qs.take (i + 1)) = mx (mxL p (qs.take i)) qs[i] := by rw [List.take_succ_eq_append_getElem hi', mxL_snoc]
    rw [wi64_id (n := ((i + 1 : Nat) : Int) + 1) (by omega) (by omega)]
    have ei : (((i + 1 : Nat) : Int)).toNat = i + 1 := Int.toNat_natCast _
    rw [ei]
    have fin : ∀ (w1 w2 : QV), NQ hp1 w1 (mnL p (qs.take (i + 1))) -> NQ hp1 w2 (mxL p (qs.take (i + 1))) -> hp1 = hp1 /\ ∃ (j : Nat) (w1' w2' : QV), j <= qs.length /\ NQ hp1 w1' (mnL p (qs.take j)) /\ NQ hp1 w2' (mxL p (qs.take j)) /\ I (((i + 1 : Nat) : Int) + 1) :: (qcells w1 ++ qcells w2) = I (((j + 1 : Nat) : Int)) :: (qcells w1' ++ qcells w2') :=
      fun w1 w2 g1 g2 => ⟨rfl, i + 1, w1, w2, hi', g1, g2, by simp⟩
    have mu : ∀ (l1 l2 : List Value), qs.length + 1 - (iAt (I (((i + 1 : Nat) : Int) + 1) :: l1) 0).toNat < qs.length + 1 - (iAt (I (((i + 1 : Nat) : Int)) :: l2) 0).toNat := by
      intro l1 l2; simp [iAt]; omega
    refine ⟨a', ha', by omega, e, v.s, v.A, v.n, v.c, v.s2, v.A2, v.n2, v.c2, d0, d1, d2, d3, ?_⟩
    refine rcmp_spec nv i1 szi z1 (by omega) ⟨_, rfl, Heap.le_refl _, Br.dec (fun g1 => ?_) (fun g1 => ?_)⟩
    . have e1 : NQ hp1 v (mnL p (qs.take (i + 1))) := by rw [h1, mn, if_pos (sub_lt0.1 g1)]; exact nv
      refine ⟨a', ha', by omega, e, v.s, v.A, v.n, v.c, v.s2, v.A2, v.n2, v.c2, d0, d1, d2, d3, a', ha', by omega, e, v.s, v.A, v.n, v.c, v.s2, v.A2, v.n2, v.c2, d0, d1, d2, d3, ?_⟩
      refine rcmp_spec nv i2 szi z2 (by omega) ⟨_, rfl, Heap.le_refl _, Br.dec (fun g2 => ?_) (fun g2 => ?_)⟩
      . have e2 : NQ hp1 v (mxL p (qs.take (i + 1))) := by rw [h2, mx, if_pos (sub_gt0.1 g2)]; exact nv
        exact ⟨a', ha', by omega, e, v.s, v.A, v.n, v.c, v.s2, v.A2, v.n2, v.c2, d0, d1, d2, d3, fin v v e1 e2, mu _ _⟩
      . have e2 : NQ hp1 w2 (mxL p (qs.take (i + 1))) := by rw [h2, mx, if_neg (fun g3 => g2 (sub_gt0.2 g3))]; exact i2
        exact ⟨fin v w2 e1 e2, mu _ _⟩
    . have e1 : NQ hp1 w1 (mnL p (qs.take (i + 1))) := by rw [h1, mn, if_neg (fun g3 => g1 (sub_lt0.2 g3))]; exact i1
      refine ⟨a', ha', by omega, e, v.s, v.A, v.n, v.c, v.s2, v.A2, v.n2, v.c2, d0, d1, d2, d3, ?_⟩
      refine rcmp_spec nv i2 szi z2 (by omega) ⟨_, rfl, Heap.le_refl _, Br.dec (fun g2 => ?_) (fun g2 => ?_)⟩
      . have e2 : NQ hp1 v (mxL p (qs.take (i + 1))) := by rw [h2, mx, if_pos (sub_gt0.1 g2)]; exact nv
        exact ⟨a', ha', by omega, e, v.s, v.A, v.n, v.c, v.s2, v.A2, v.n2, v.c2, d0, d1, d2, d3, fin w1 v e1 e2, mu _ _⟩
      . have e2 : NQ hp1 w2 (mxL p (qs.take (i + 1))) := by rw [h2, mx, if_neg (fun g3 => g2 (sub_gt0.2 g3))]; exact i2
        exact ⟨fin w1 w2 e1 e2, mu _ _⟩
  . obtain rfl : i = qs.length := by omega
    rw [List.take_length] at i1 i2
    exact hK w1 w2 i1 i2
theorem litQ_ok {ws : List QV} {ps : List Rat} {n : Nat} {parts : Array (Nat × Value)} (hw : ws.length = ps.length) (hq : ∀ (i : Nat) (h1 : i < ws.length) (h2 : i < ps.length), NQ h ws[i] ps[i]) (hn : n = ws.length) (hlen : n <= 1000) (hp : parts.toList = (List.range' 0 (ws.map QV.v).length).zip (ws.map QV.v)) {K : Value -> Heap -> Prop}
    (x : ∀ b h', h.le h' -> QsAt h' (some ⟨b, 0, none⟩) ws ps -> K (.slice (some ⟨b, 0, none⟩) n n) h') : wpH Tryz.prog (Instr.buildSlice ty_tRats n parts) K h := by
  refine litAll_ok tRats (vs := ws.map QV.v) (fun v hv => ?_) (by simpa using hn) (by omega) hp (fun b hb => x b _ (Heap.le_put _ hb) ⟨hw, fun i h1 h2 => (hq i h1 h2).mono (Heap.le_put _ hb), ?_⟩)
  . obtain ⟨w, _, rfl⟩ := List.mem_map.1 hv; rfl
  . have e : ∀ ws : List QV, (ws.map QV.v).flatMap (fun v => v.cells.toList) = ws.flatMap qcells := by
      intro ws
      induction ws with
      | nil => rfl
      | cons w ws ih => rw [List.map_cons, List.flatMap_cons, ih, List.flatMap_cons]; rfl
    rw [e]
    exact SlV.new _ b _ _ _ _ (fun i v hv => by simpa using hv)
theorem rfread_spec (hl1 : lo.length <= 100000000) (hl2 : hi.length <= 100000000) (sl : Sz m (rv lo)) (sh : Sz m (rv hi)) (hm : m <= 400000000) (hK1 : ∀ p q, lo = txtQ p -> hi = txtQ q -> p <= q -> ∀ w1 w2 h', h.le h' -> NQ h' w1 p -> NQ h' w2 q -> K (.tuple #[iv8 w1 w2, .bool true]) h')
    (hK0 : ¬ IvOk lo hi -> ∀ w1 w2 h', h.le h' -> K (.tuple #[iv8 w1 w2, .bool false]) h') : FCall Tryz.prog f_RfRead #[ivT lo hi] h K := by
  refine RfRead_ok _ _ ?_
  unfold RfRead
  refine read_spec hl1 ?_ ?_
  . rintro p rfl w1 h1 l1 i1
    refine ⟨_, _, _, _, _, _, _, _, _, rfl, read_spec hl2 ?_ ?_⟩
    . rintro q rfl w2 h2 l2 i2
      rw [rv_txt] at sl sh
      refine ⟨_, _, _, _, _, _, _, _, _, rfl, rcmp_spec (i1.mono l2) i2 sl sh hm ⟨_, rfl, Heap.le_refl _, ?_⟩⟩
      by_cases hc : p <= q
      . rw [decide_eq_true (sub_le0.2 hc)]; exact hK1 p q rfl rfl hc w1 w2 h2 (Heap.le_trans l1 l2) (i1.mono l2) i2
      . rw [decide_eq_false (fun e => hc (sub_le0.1 e))]
        refine hK0 ?_ w1 w2 h2 (Heap.le_trans l1 l2)
        rintro ⟨p', q', e1, e2, e3⟩
        rw [txtQ_inj e1, txtQ_inj e2] at hc; exact hc e3
    . intro hn w2 h2 l2
      exact ⟨_, _, _, _, _, _, _, _, _, rfl, hK0 (fun ⟨p', q', e1, e2, e3⟩ => hn ⟨q', e2⟩) w1 w2 h2 (Heap.le_trans l1 l2)⟩
  . intro hn w1 h1 l1
    refine ⟨_, _, _, _, _, _, _, _, _, rfl, read_spec hl2 ?_ ?_⟩
    . rintro q rfl w2 h2 l2 i2
      exact ⟨_, _, _, _, _, _, _, _, _, rfl, hK0 (fun ⟨p', q', e1, e2, e3⟩ => hn ⟨p', e1⟩) w1 w2 h2 (Heap.le_trans l1 l2)⟩
    . intro hn2 w2 h2 l2
      exact ⟨_, _, _, _, _, _, _, _, _, rfl, hK0 (fun ⟨p', q', e1, e2, e3⟩ => hn ⟨p', e1⟩) w1 w2 h2 (Heap.le_trans l1 l2)⟩
theorem rfwrite_spec (ia : NQ h a p) (ib : NQ h b q) (hp : Sz m p) (hq : Sz m q) (hm : m <= 1000000000) (hK : K (ivS p q) h) : FCall Tryz.prog f_RfWrite #[iv8 a b] h K := by
  refine RfWrite_ok _ _ _ _ _ _ _ _ _ _ _ _ _ _ _ _ ?_
  unfold RfWrite
  exact text_spec ia hp hm ⟨_, rfl, Heap.le_refl _, text_spec ib hq hm ⟨_, rfl, Heap.le_refl _, hK⟩⟩
end
end Go.Proofs.YtekkjhmfjplljaaGreatDoor
/-
  Intervals: results of the program and of the reference as plain values; tests of size; the sanity check.
-/
namespace Go.Proofs.YtekkjhmfjplljaaGreatDoor
open Go
set_option maxRecDepth 20000
def ivB (lo hi : List UInt8) : Bool := decide (txtQ (rv lo) = lo) && (decide (txtQ (rv hi) = hi) && decide (rv lo <= rv hi))
theorem ivB_true {p q : Rat} (h : p <= q) : ivB (txtQ p) (txtQ q) = true := by simp [ivB, rv_txt, h]
theorem ivB_ok {lo hi : List UInt8} (h : ivB lo hi = true) : IvOk lo hi := by
  simp only [ivB, Bool.and_eq_true, decide_eq_true_eq] at h
  exact ⟨rv lo, rv hi, h.1.symm, h.2.1.symm, h.2.2⟩
theorem ivB_false {lo hi : List UInt8} (h : ¬ IvOk lo hi) : ivB lo hi = false := by
  cases e : ivB lo hi with
  | false => rfl
  | true => exact absurd (ivB_ok e) h
abbrev R3 := List UInt8 × List UInt8 × Int
abbrev r3 (x : R3) : Value := .tuple #[ivT x.1 x.2.1, I x.2.2]
def powR (lo hi : List UInt8) (k : Int) : R3 := if ivB lo hi then (if k < 0 \/ 24 < k then ([], [], 3) else (txtQ (powLo (rv lo) (rv hi) k.toNat), txtQ (powHi (rv lo) (rv hi) k.toNat), 0)) else ([], [], 1)
def roundR (lo hi : List UInt8) (k : Int) : R3 := if ivB lo hi then (if k < 0 \/ 4096 < k then ([], [], 3) else (txtQ ((((rv lo * 2 ^ k.toNat).floor : Int) : Rat) / 2 ^ k.toNat), txtQ ((((rv hi * 2 ^ k.toNat).ceil : Int) : Rat) / 2 ^ k.toNat), 0)) else ([], [], 1)
def mulR (lo hi lo2 hi2 : List UInt8) : R3 := if ivB lo hi && ivB lo2 hi2 then (txtQ (mulLo (rv lo) (rv hi) (rv lo2) (rv hi2)), txtQ (mulHi (rv lo) (rv hi) (rv lo2) (rv hi2)), 0) else ([], [], 1)
section
variable {h : Heap} {K : Value -> Heap -> Prop} {m : Nat} {lo hi x lo2 hi2 : List UInt8}
theorem ipowR (gl : Gl h) (ta : Tx m lo) (tb : Tx m hi) (hm1 : 1 <= m) (hm : m <= 10000) {k : Int} (hK : K (r3 (powR lo hi k)) h) : FCall Tryz.prog f_IvPow #[ivT lo hi, I k] h K := by
  refine ipow_spec gl ta tb hm1 hm ?_ ?_ ?_
  . rintro p q n rfl rfl hle rfl hn
    rw [powR, if_pos (ivB_true hle), if_neg (by omega), rv_txt, rv_txt, Int.toNat_natCast] at hK; exact hK
  . rintro ⟨p, q, rfl, rfl, hle⟩ hr
    rw [powR, if_pos (ivB_true hle), if_pos hr] at hK; exact hK
  . intro hn
    rw [powR, ivB_false hn, if_neg (by simp)] at hK; exact hK
theorem iroundR (gl : Gl h) (ta : Tx m lo) (tb : Tx m hi) (hm1 : 1 <= m) (hm : m <= 10000) {k : Int} (hK : K (r3 (roundR lo hi k)) h) : FCall Tryz.prog f_IvRoundOut #[ivT lo hi, I k] h K := by
  refine iround_spec gl ta tb hm1 hm ?_ ?_ ?_
  . rintro p q n rfl rfl hle rfl hn
    rw [roundR, if_pos (ivB_true hle), if_neg (by omega), rv_txt, rv_txt, Int.toNat_natCast] at hK; exact hK
  . rintro ⟨p, q, rfl, rfl, hle⟩ hr
    rw [roundR, if_pos (ivB_true hle), if_pos hr] at hK; exact hK
  . intro hn
    rw [roundR, ivB_false hn, if_neg (by simp)] at hK; exact hK
theorem two_false {lo hi lo2 hi2 : List UInt8} (h : ¬ (IvOk lo hi /\ IvOk lo2 hi2)) : (ivB lo hi && ivB lo2 hi2) = false := by
  cases e : (ivB lo hi && ivB lo2 hi2) with
  | false => rfl
  | true =>
    rw [Bool.and_eq_true] at e
    exact absurd ⟨ivB_ok e.1, ivB_ok e.2⟩ h
theorem two_true {p q r s : Rat} (h : p <= q) (h2 : r <= s) : (ivB (txtQ p) (txtQ q) && ivB (txtQ r) (txtQ s)) = true := by rw [ivB_true h, ivB_true h2]; rfl
theorem imulR (gl : Gl h) (ta : Tx m lo) (tb : Tx m hi) (tc : Tx m lo2) (td : Tx m hi2) (hm : m <= 1000000) (hK : K (r3 (mulR lo hi lo2 hi2)) h) : FCall Tryz.prog f_IvMul #[ivT lo hi, ivT lo2 hi2] h K := by
  refine imul_spec gl ta tb tc td hm ?_ ?_
  . rintro p q r s rfl rfl hle rfl rfl hle2
    rw [mulR, if_pos (two_true hle hle2), rv_txt, rv_txt, rv_txt, rv_txt] at hK; exact hK
  . intro hn
    rw [mulR, two_false hn, if_neg (by simp)] at hK; exact hK
theorem ivalidR (gl : Gl h) (ta : Tx m lo) (tb : Tx m hi) (hm : m <= 1000000000) (hK : K (.bool (ivB lo hi)) h) : FCall Tryz.prog f_IvValid #[ivT lo hi] h K := by
  refine ivalid_spec gl ta tb hm ?_ ?_
  . rintro p q rfl rfl hle; rw [ivB_true hle] at hK; exact hK
  . intro hn; rw [ivB_false hn] at hK; exact hK
theorem kpshort_spec {ls : List (List UInt8)} {n : Int} {A : Option Addr} {c ln : Nat} (sl : SlV h A (ls.map fun l => Value.string (bs l))) (hn : ln = ls.length) (hl : ls.length <= 1000000000) (hK1 : (∀ l ∈ ls, (l.length : Int) <= n) -> K (.bool true) h) (hK0 : ¬ (∀ l ∈ ls, (l.length : Int) <= n) -> K (.bool false) h) : FCall Tryz.prog f_KpShort #[I n, .slice A ln c] h K := by
  subst hn
  refine KpShort_ok _ _ _ _ ?_
  unfold KpShort
  refine ⟨fun L hp => hp = h /\ ∃ i : Nat, i <= ls.length /\ (∀ l ∈ ls.take i, (l.length : Int) <= n) /\ L = [I i], fun L _ => ls.length - (iAt L 0).toNat, ⟨rfl, 0, Nat.zero_le _, by simp, rfl⟩, ?_⟩
  rintro t hp1 ⟨rfl, i, hi, hall, hL⟩
  simp only [List.cons.injEq, Value.int.injEq, true_and, and_true] at hL
  subst hL
  refine Br.dec (fun e => ?_) (fun e => ?_)
  . have hi' : i < ls.length := by omega
    obtain ⟨a, ha, hc⟩ := SlV.at sl (i := i) (by simpa using hi')
    refine ⟨a, ha, by omega, e, bs ls[i], ?_, ?_⟩
    . rw [Int.toNat_natCast, Nat.mul_one, hc]; simp
    rw [bs_size, wi64_id (by omega) (by omega)]
    refine Br.dec (fun g => hK0 fun x => ?_) (fun g => ⟨⟨rfl, i + 1, hi', ?_, rfl⟩, ?_⟩)
    . have := x ls[i] (List.getElem_mem hi'); omega
    . intro l hl
      rw [List.take_succ_eq_append_getElem hi'] at hl
      rcases List.mem_append.1 hl with hl | hl
      . exact hall l hl
      . rw [List.mem_singleton.1 hl]; omega
    . simp [iAt]; omega
  . obtain rfl : i = ls.length := by omega
    rw [List.take_length] at hall
    exact hK1 hall
def ivcells (x : List UInt8 × List UInt8) : List Value := [.string (bs x.1), .string (bs x.2)]
theorem ivflat_len (l : List (List UInt8 × List UInt8)) : (l.flatMap ivcells).length = l.length * 2 := by
  induction l with
  | nil => rfl
  | cons w l ih => rw [List.flatMap_cons, List.length_append, ih, List.length_cons]; simp [ivcells]; omega
theorem ivflat_at (l : List (List UInt8 × List UInt8)) : ∀ {i : Nat} (hi : i < l.length) {j : Nat} (hj : j < 2), (l.flatMap ivcells)[i * 2 + j]? = (ivcells l[i])[j]? := by
  induction l with
  | nil => intro i hi; simp at hi
  | cons w l ih =>
    intro i hi j hj
    rw [List.flatMap_cons]
    cases i with
    | zero => rw [List.getElem?_append_left (by simp [ivcells]; omega)]; simp
    | succ i =>
      rw [List.getElem?_append_right (by simp [ivcells]; omega)]
      have := ih (i := i) (by simpa using hi) hj
      simp only [List.getElem_cons_succ]
      rw [<- this]
      congr 1
      simp [ivcells]; omega
theorem ivs_at {l : List (List UInt8 × List UInt8)} {A : Option Addr} (sl : SlV h A (l.flatMap ivcells)) {i : Nat} (hi : i < l.length) : ∃ a, A = some a /\ Heap.cell? h (Addr.add (Addr.add a (i * 2)) 0) = some (.string (bs l[i].1)) /\ Heap.cell? h (Addr.add (Addr.add a (i * 2)) 1) = some (.string (bs l[i].2)) := by
  have hl := ivflat_len l
  obtain ⟨a, ha, _⟩ := sl.at (i := 0) (by omega)
  refine ⟨a, ha, ?_⟩
  have cell : ∀ j, j < 2 -> ∀ v, (ivcells l[i])[j]? = some v -> Heap.cell? h (Addr.add (Addr.add a (i * 2)) j) = some v := by
    intro j hj v hv
    obtain ⟨a', ha', hc⟩ := sl.at (i := i * 2 + j) (by omega)
    rw [ha] at ha'
    cases ha'
    rw [add_add', hc]
    have := ivflat_at l hi hj
    rw [List.getElem?_eq_getElem (by omega), hv] at this
    exact this
  exact ⟨cell 0 (by omega) _ rfl, cell 1 (by omega) _ rfl⟩
theorem lshort_spec {l : List (List UInt8 × List UInt8)} {A : Option Addr} {c ln : Nat} (sl : SlV h A (l.flatMap ivcells)) (hn : ln = l.length) (hl : l.length <= 1000000000) (hK1 : (∀ x ∈ l, x.1.length <= 20 /\ x.2.length <= 20) -> K (.bool true) h) (hK0 : ¬ (∀ x ∈ l, x.1.length <= 20 /\ x.2.length <= 20) -> K (.bool false) h) : FCall Tryz.prog f_LShort #[.slice A ln c] h K := by
  subst hn
  refine FCall.pure (LShort_ok _ _ _ ?_)
  unfold LShort
  refine ⟨fun L hp => h.le hp /\ ∃ i : Nat, i <= l.length /\ (∀ x ∈ l.take i, x.1.length <= 20 /\ x.2.length <= 20) /\ L = [I i], fun L _ => l.length - (iAt L 0).toNat, ⟨Heap.le_refl _, 0, Nat.zero_le _, by simp, rfl⟩, ?_⟩
  rintro t hp1 ⟨lh, i, hi, hall, hL⟩
  simp only [List.cons.injEq, Value.int.injEq, true_and, and_true] at hL
  subst hL
  refine Br.dec (fun e => ?_) (fun e => ?_)
  . have hi' : i < l.length := by omega
    obtain ⟨a, ha, c0, c1⟩ := ivs_at (sl.mono lh) hi'
    refine ⟨a, ha, by omega, e, bs l[i].1, by rw [Int.toNat_natCast]; exact c0, a, ha, by omega, e, bs l[i].2, by rw [Int.toNat_natCast]; exact c1, ?_⟩
    refine litS_ok tStrings (ls := [l[i].1, l[i].2]) rfl (by simp) rfl ?_
    intro b h' l' s2
    refine ⟨_, _, _, rfl, l', ?_⟩
    rw [wi64_id (by omega) (by omega)]
    refine kpshort_spec s2 rfl (by simp) (fun g => ⟨_, rfl, Heap.le_refl _, ⟨⟨Heap.le_trans lh l', i + 1, hi', ?_, rfl⟩, ?_⟩⟩) (fun g => ⟨_, rfl, Heap.le_refl _, Heap.le_trans lh l', hK0 fun x => ?_⟩)
    . intro x hx
      rw [List.take_succ_eq_append_getElem hi'] at hx
      rcases List.mem_append.1 hx with hx | hx
      . exact hall x hx
      . rw [List.mem_singleton.1 hx]
        have g1 := g l[i].1 (by simp)
        have g2 := g l[i].2 (by simp)
        omega
    . simp [iAt]; omega
    . have := x l[i] (List.getElem_mem hi')
      refine g fun y hy => ?_
      simp only [List.mem_cons, List.not_mem_nil, or_false] at hy
      rcases hy with rfl | rfl <;> omega
  . obtain rfl : i = l.length := by omega
    rw [List.take_length] at hall
    exact ⟨lh, hK1 hall⟩
theorem litIv_ok {l : List (List UInt8 × List UInt8)} {n : Nat} {parts : Array (Nat × Value)} (hn : n = l.length) (hlen : n <= 1000) (hp : parts.toList = (List.range' 0 (l.map fun x => ivT x.1 x.2).length).zip (l.map fun x => ivT x.1 x.2)) {K : Value -> Heap -> Prop}
    (x : ∀ b h', h.le h' -> SlV h' (some ⟨b, 0, none⟩) (l.flatMap ivcells) -> K (.slice (some ⟨b, 0, none⟩) n n) h') : wpH Tryz.prog (Instr.buildSlice ty_tIvs n parts) K h := by
  refine litAll_ok tIvs (vs := l.map fun x => ivT x.1 x.2) (fun v hv => ?_) (by simpa using hn) (by omega) hp (fun b hb => x b _ (Heap.le_put _ hb) ?_)
  . obtain ⟨w, _, rfl⟩ := List.mem_map.1 hv; rfl
  . have e : ∀ l : List (List UInt8 × List UInt8), (l.map fun x => ivT x.1 x.2).flatMap (fun v => v.cells.toList) = l.flatMap ivcells := by
      intro l
      induction l with
      | nil => rfl
      | cons w l ih => rw [List.map_cons, List.flatMap_cons, ih, List.flatMap_cons]; rfl
    rw [e]
    exact SlV.new _ b _ _ _ _ (fun i v hv => by simpa using hv)
theorem txtm1 : txtQ (-1) = [45, 49] := by
  have h1 : (-1 : Rat).num = -1 := by decide +kernel
  have h2 : (-1 : Rat).den = 1 := by decide +kernel
  simp [txtQ, txtI, h1, h2, digs, dd_pos, dd_zero, dch]
theorem txtm2 : txtQ (-2) = [45, 50] := by
  have h1 : (-2 : Rat).num = -2 := by decide +kernel
  have h2 : (-2 : Rat).den = 1 := by decide +kernel
  simp [txtQ, txtI, h1, h2, digs, dd_pos, dd_zero, dch]
theorem txt4 : txtQ 4 = [52] := by
  have h1 : (4 : Rat).num = 4 := by decide +kernel
  have h2 : (4 : Rat).den = 1 := by decide +kernel
  simp [txtQ, txtI, h1, h2, digs, dd_pos, dd_zero, dch]
theorem txt13 : txtQ (1 / 3) = [49, 47, 51] := by
  have h1 : (1 / 3 : Rat).num = 1 := by decide +kernel
  have h2 : (1 / 3 : Rat).den = 3 := by decide +kernel
  simp [txtQ, txtI, h1, h2, digs, dd_pos, dd_zero, dch]
theorem txt14 : txtQ (1 / 4) = [49, 47, 52] := by
  have h1 : (1 / 4 : Rat).num = 1 := by decide +kernel
  have h2 : (1 / 4 : Rat).den = 4 := by decide +kernel
  simp [txtQ, txtI, h1, h2, digs, dd_pos, dd_zero, dch]
theorem sz16 {q : Rat} (h : decide (q.num.natAbs < 65536 /\ q.den < 65536) = true) : Sz 16 q := by
  have := of_decide_eq_true h
  exact ⟨by unfold ZB; exact this.1, by unfold ZB; simpa using this.2⟩
theorem tl_bs (a : Array UInt8) : ({ data := a } : ByteArray) = bs a.toList := by simp [bs]
theorem awake_spec (gl : Gl h) (hK : K (.bool true) h) : FCall Tryz.prog f_LAwake #[] h K := by
  refine LAwake_ok ?_
  unfold LAwake
  have t1 : Tx 16 (txtQ (-1)) := Tx.of (sz16 (by decide +kernel)) (by omega)
  have t2 : Tx 16 (txtQ 2) := Tx.of (sz16 (by decide +kernel)) (by omega)
  have t3 : Tx 16 (txtQ (1 / 3)) := Tx.of (sz16 (by decide +kernel)) (by omega)
  show FCall _ _ #[ivT [45, 49] [50], ivT [45, 49] [50]] _ _
  rw [<- txtm1, <- two_txt]
  refine imulR gl t1 t2 t1 t2 (by omega) ?_
  have e1 : mulR (txtQ (-1)) (txtQ 2) (txtQ (-1)) (txtQ 2) = (txtQ (-2), txtQ 4, 0) := by
    rw [mulR, if_pos (two_true (by decide +kernel) (by decide +kernel)), rv_txt, rv_txt]
    have a1 : mulLo (-1) 2 (-1) 2 = -2 := by decide +kernel
    have a2 : mulHi (-1) 2 (-1) 2 = 4 := by decide +kernel
    rw [a1, a2]
  rw [e1]
  refine ⟨_, _, _, rfl, ?_⟩
  show FCall _ _ #[ivT (txtQ (-1)) (txtQ 2), I 2] _ _
  refine ipowR gl t1 t2 (by omega) (by omega) ?_
  have e2 : powR (txtQ (-1)) (txtQ 2) 2 = (txtQ 0, txtQ 4, 0) := by
    rw [powR, if_pos (ivB_true (by decide +kernel)), if_neg (by omega), rv_txt, rv_txt]
    have a1 : powLo (-1) 2 (2 : Int).toNat = 0 := by decide +kernel
    have a2 : powHi (-1) 2 (2 : Int).toNat = 4 := by decide +kernel
    rw [a1, a2]
  rw [e2]
  refine ⟨_, _, _, rfl, ?_⟩
  show FCall _ _ #[ivT [49, 47, 51] [49, 47, 51], I 2] _ _
  rw [<- txt13]
  refine iroundR gl t3 t3 (by omega) (by omega) ?_
  have e3 : roundR (txtQ (1 / 3)) (txtQ (1 / 3)) 2 = (txtQ (1 / 4), txtQ (1 / 2), 0) := by
    rw [roundR, if_pos (ivB_true (by decide +kernel)), if_neg (by omega), rv_txt]
    have a1 : ((((1 / 3 : Rat) * 2 ^ (2 : Int).toNat).floor : Int) : Rat) / 2 ^ (2 : Int).toNat = 1 / 4 := by decide +kernel
    have a2 : ((((1 / 3 : Rat) * 2 ^ (2 : Int).toNat).ceil : Int) : Rat) / 2 ^ (2 : Int).toNat = 1 / 2 := by decide +kernel
    rw [a1, a2]
  rw [e3]
  refine ⟨_, _, _, rfl, ?_⟩
  simp only [txtm2, txt4, txtQ0, txt14, half_txt, two_txt, txtm1, txt13, tl_bs, bs_beq]
  exact hK
end
end Go.Proofs.YtekkjhmfjplljaaGreatDoor
/-
  The laws IntervalPow, IntervalBasics.
-/
namespace Go.Proofs.YtekkjhmfjplljaaGreatDoor
open Go
set_option maxRecDepth 20000
section
variable {h : Heap} {lo hi x : List UInt8}
end
end Go.Proofs.YtekkjhmfjplljaaGreatDoor
/-
  The law IntervalArithmetic.
-/
namespace Go.Proofs.YtekkjhmfjplljaaGreatDoor
open Go
set_option maxRecDepth 20000
theorem Br.t {b : Bool} {A B : Prop} (hb : b = true) (x : A) : Br b A B := by subst hb; exact x
theorem Br.f {b : Bool} {A B : Prop} (hb : b = false) (x : B) : Br b A B := by subst hb; exact x
theorem eq2 (a b : List UInt8) : ((bs a).toList == (bs a).toList && ((bs b).toList == (bs b).toList && true)) = true := by simp
section
variable {h : Heap} {K : Value -> Heap -> Prop} {m : Nat} {lo hi x lo2 hi2 : List UInt8}
theorem rfpair_spec (ta : Tx m lo) (tb : Tx m hi) (tc : Tx m lo2) (td : Tx m hi2) (hm : m <= 400000000) (hK1 : ∀ p q r s, lo = txtQ p -> hi = txtQ q -> p <= q -> lo2 = txtQ r -> hi2 = txtQ s -> r <= s -> ∀ w1 w2 w3 w4 h', h.le h' -> NQ h' w1 p -> NQ h' w2 q -> NQ h' w3 r -> NQ h' w4 s -> K (.tuple #[iv8 w1 w2, iv8 w3 w4, .bool true]) h')
    (hK0 : ¬ (IvOk lo hi /\ IvOk lo2 hi2) -> ∀ w1 w2 w3 w4 h', h.le h' -> K (.tuple #[iv8 w1 w2, iv8 w3 w4, .bool false]) h') : FCall Tryz.prog f_RfPair #[ivT lo hi, ivT lo2 hi2] h K := by
  refine RfPair_ok _ _ _ _ ?_
  unfold RfPair
  refine rfread_spec ta.len tb.len ta.sz tb.sz hm ?_ ?_
  . rintro p q e1 e2 hle w1 w2 h1 l1 i1 i2
    refine ⟨_, _, _, _, _, _, _, _, _, _, _, _, _, _, _, _, _, rfl, rfread_spec tc.len td.len tc.sz td.sz hm ?_ ?_⟩
    . rintro r s e3 e4 hle2 w3 w4 h2 l2 i3 i4
      exact ⟨_, _, _, _, _, _, _, _, _, _, _, _, _, _, _, _, _, rfl, hK1 p q r s e1 e2 hle e3 e4 hle2 w1 w2 w3 w4 h2 (Heap.le_trans l1 l2) (i1.mono l2) (i2.mono l2) i3 i4⟩
    . intro hn w3 w4 h2 l2
      exact ⟨_, _, _, _, _, _, _, _, _, _, _, _, _, _, _, _, _, rfl, hK0 (fun x => hn x.2) w1 w2 w3 w4 h2 (Heap.le_trans l1 l2)⟩
  . intro hn w1 w2 h1 l1
    refine ⟨_, _, _, _, _, _, _, _, _, _, _, _, _, _, _, _, _, rfl, rfread_spec tc.len td.len tc.sz td.sz hm ?_ ?_⟩
    . rintro r s e3 e4 hle2 w3 w4 h2 l2 i3 i4
      exact ⟨_, _, _, _, _, _, _, _, _, _, _, _, _, _, _, _, _, rfl, hK0 (fun x => hn x.1) w1 w2 w3 w4 h2 (Heap.le_trans l1 l2)⟩
    . intro hn2 w3 w4 h2 l2
      exact ⟨_, _, _, _, _, _, _, _, _, _, _, _, _, _, _, _, _, rfl, hK0 (fun x => hn x.1) w1 w2 w3 w4 h2 (Heap.le_trans l1 l2)⟩
end
end Go.Proofs.YtekkjhmfjplljaaGreatDoor
