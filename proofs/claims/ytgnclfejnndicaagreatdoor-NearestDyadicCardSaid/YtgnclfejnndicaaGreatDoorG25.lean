/-
  Texts of this proof, merged by a program of ours: IntPw, RatF.
-/
import Derived.Test.YtgnclfejnndicaaGreatDoorG21
/-
  Powers of integers: powerWords, Pow.
-/
namespace Go.Proofs.YtgnclfejnndicaaGreatDoor
open Go
set_option maxRecDepth 20000
theorem half_pow (n j : Nat) : n / 2 ^ j = 2 * (n / 2 ^ (j + 1)) + n / 2 ^ j % 2 := by
  rw [Nat.pow_succ, ← Nat.div_div_eq_div_mul]
  omega
theorem two_len {h : Heap} {A : Option Addr} {n : Nat} {v : Int} {b : Nat} (m : Mw h A n v) (hv : v < 2 ^ b) (hb : b ≤ 6400000000) : n ≤ 100000000 := by
  obtain ⟨k, hk⟩ : ∃ k, k = 100000000 := ⟨_, rfl⟩
  rw [← hk]
  refine m.len_le (by decide) ?_
  rw [pow_b64]
  exact Int.lt_of_lt_of_le hv (pow_le_pow' (B := 2) (by decide) (by omega))
theorem pow_lt_two {x : Nat} {m : Nat} (hx : x < 2 ^ m) (hm : 1 ≤ m) (k : Nat) : x ^ k < 2 ^ (m * k + 1) := by
  have h1 : x ^ k ≤ (2 ^ m) ^ k := Nat.pow_le_pow_left (Nat.le_of_lt hx) k
  rw [← Nat.pow_mul] at h1
  have h2 : 2 ^ (m * k) < 2 ^ (m * k + 1) := Nat.pow_lt_pow_right (by decide) (by omega)
  omega
section
variable {h g : Heap} {K : Value → Heap → Prop} {A B : Option Addr} {s s' : Bool} {an ac bn bc m : Nat} {x y : Int}
theorem blen_ok {n : Nat} (hx : n < 18446744073709551616) (hK : K (I (blen n)) h) : FCall Tryz.prog f_BLen #[U n] h K := by
  refine BLen_ok _ ?_
  unfold BLen
  exact len64_ok hx ⟨_, rfl, hK⟩
theorem powerWords_spec {x n xn xc : Nat} (M : Mw h A xn (x : Int)) (hc : xn ≤ xc) (hx : x < 2 ^ m) (hm1 : 1 ≤ m) (hm : m * n + 1 ≤ 6400000000) (hn : n < 9223372036854775808) (hmm : m ≤ 6400000000)
    (hK : ∀ A' n' c' h', h.le h' → n' ≤ c' → Mw h' A' n' ((x ^ n : Nat) : Int) → K (.slice A' n' c') h') : FCall Tryz.prog f_WPowerWords #[.slice A xn xc, U (n : Int)] h K := by
  refine WPowerWords_ok _ _ _ _ ?_
  unfold WPowerWords
  have hxlen : xn ≤ 100000000 := two_len (b := m) M (by
    have : ((x : Nat) : Int) < ((2 ^ m : Nat) : Int) := Int.ofNat_lt.2 hx
    rw [Int.natCast_pow] at this; exact this) hmm
  refine lit1_ok tU64s rfl ?_
  intro b hb
  refine ⟨_, _, _, rfl, blen_ok (by omega) ⟨_, rfl, ?_⟩⟩
  have hb64 : blen n ≤ 63 := blen_le (by
    have : (2 : Nat) ^ 63 = 9223372036854775808 := by decide
    omega)
  have M1 : Mw (h.put b (.cells #[U 1] ty_tU64s_e)) (some ⟨b, 0, none⟩) 1 ((x ^ (n / 2 ^ blen n) : Nat) : Int) := by
    have e0 : n / 2 ^ blen n = 0 := by
      apply Nat.div_eq_of_lt
      by_cases h0 : n = 0
      · subst h0; exact Nat.pow_pos (by decide)
      · exact (blen_spec h0).2
    rw [e0, Nat.pow_zero]
    refine ⟨[1], rfl, SlI.new _ _ _ _ _, ?_, ?_, ?_⟩
    · intro x hx; simp at hx; subst hx; decide
    · unfold Norm; simp
    · simp [val]
  refine ⟨fun L hp => ∃ (RA : Option Addr) (rn rc j : Nat), L = [.slice RA rn rc, I ((j : Int) - 1)] ∧ j ≤ blen n ∧ h.le hp ∧ rn ≤ rc ∧ Mw hp RA rn ((x ^ (n / 2 ^ j) : Nat) : Int), fun L _ => (iAt L 1 + 1).toNat, ⟨_, 1, 1, blen n, by rw [wi64_id (by omega) (by omega)], Nat.le_refl _, Heap.le_put _ hb, Nat.le_refl _, M1⟩, ?_⟩
  rintro RA rn rc i hp ⟨RA', rn', rc', j, hL, hj, lh, hrc, MR⟩
  simp only [List.cons.injEq, Value.slice.injEq, Value.int.injEq, and_true, true_and] at hL
  obtain ⟨⟨rfl, rfl, rfl⟩, rfl⟩ := hL
  have lenR : ∀ {h' : Heap} {A' : Option Addr} {n' k : Nat}, k ≤ n → Mw h' A' n' ((x ^ k : Nat) : Int) → n' ≤ 100000000 := by
    intro h' A' n' k hk M'
    refine two_len (b := m * n + 1) M' ?_ hm
    have h1 := pow_lt_two hx hm1 k
    have h2 : 2 ^ (m * k + 1) ≤ 2 ^ (m * n + 1) := Nat.pow_le_pow_right (by decide) (by have := Nat.mul_le_mul_left m hk; omega)
    have h3 : ((x ^ k : Nat) : Int) < ((2 ^ (m * n + 1) : Nat) : Int) := Int.ofNat_lt.2 (by omega)
    rw [Int.natCast_pow (n := m * n + 1)] at h3
    exact h3
  refine Br.dec (fun h0 => ?_) (fun h0 => ?_)
  · obtain ⟨j, rfl⟩ : ∃ i, j = i + 1 := ⟨j - 1, by omega⟩
    have e0 : ((j + 1 : Nat) : Int) - 1 = (j : Int) := by omega
    simp only [e0]
    have hr1 := lenR (Nat.div_le_self _ _) MR
    have hhalf := half_pow n j
    have hle := Nat.div_le_self n (2 ^ j)
    refine multiplyWords_spec MR MR hrc hrc (by omega) (by omega) ?_
    intro A2 n2 c2 h2 l2 k2 M2
    refine ⟨_, _, _, rfl, ?_⟩
    have e1 : wu64 (j : Int) = (j : Int) := wu64_id (by omega) (by omega)
    rw [e1]
    refine Br.dec (fun e => absurd e (by omega)) (fun _ => ?_)
    rw [Int.toNat_natCast, shrN (by omega)]
    have e2 : (n : Int) / 2 ^ j = ((n / 2 ^ j : Nat) : Int) := by rw [Int.natCast_ediv, Int.natCast_pow]; rfl
    rw [e2, band_one64 (by omega)]
    rw [← Int.natCast_mul, ← Nat.pow_add] at M2
    have e3 : wi64 ((j : Int) - 1) = (j : Int) - 1 := wi64_id (by omega) (by omega)
    rw [e3]
    have hmu : ∀ (q : Value), (iAt [q, I ((j : Int) - 1)] 1 + 1).toNat < (iAt [.slice RA rn rc, I (j : Int)] 1 + 1).toNat := by
      intro q
      simp only [iAt, List.getElem?_cons_zero, List.getElem?_cons_succ]
      omega
    refine Br.beq (fun hodd => ?_) (fun hev => ?_)
    · have hn2 := lenR (by omega) M2
      refine multiplyWords_spec M2 (M.mono (Heap.le_trans lh l2)) k2 hc (by omega) (by omega) ?_
      intro A3 n3 c3 h3 l3 k3 M3
      refine ⟨_, _, _, rfl, ⟨A3, n3, c3, j, rfl, by omega, Heap.le_trans lh (Heap.le_trans l2 l3), k3, ?_⟩, hmu _⟩
      rw [← Int.natCast_mul, ← Nat.pow_succ] at M3
      rw [show n / 2 ^ j = n / 2 ^ (j + 1) + n / 2 ^ (j + 1) + 1 by omega]
      exact M3
    · refine ⟨⟨A2, n2, c2, j, rfl, by omega, Heap.le_trans lh l2, k2, ?_⟩, hmu _⟩
      rw [show n / 2 ^ j = n / 2 ^ (j + 1) + n / 2 ^ (j + 1) by omega]
      exact M2
  · obtain rfl : j = 0 := by omega
    rw [Nat.pow_zero, Nat.div_one] at MR
    exact hK _ _ _ _ lh hrc MR
theorem neg_pow (x : Int) (n : Nat) : (-x) ^ n = if n % 2 = 1 then -(x ^ n) else x ^ n := by
  induction n with
  | zero => simp
  | succ n ih =>
    rw [Int.pow_succ, Int.pow_succ, ih]
    by_cases h : n % 2 = 1
    · rw [if_pos h, if_neg (by omega), Int.neg_mul_neg]
    · rw [if_neg h, if_pos (by omega), Int.mul_neg]
theorem zpow_spec {n : Nat} (i : ZI h s A an ac x) (hx : ZB m x) (hm1 : 1 ≤ m) (hm : m * n + 1 ≤ 6400000000) (hmm : m ≤ 6400000000) (hn : n < 9223372036854775808) (hK : ∀ s1 A' n' c' h', h.le h' → ZI h' s1 A' n' c' (x ^ n) → K (.agg #[.bool s1, .slice A' n' c']) h') : FCall Tryz.prog f_ZPow #[.agg #[.bool s, .slice A an ac], U (n : Int)] h K := by
  have cx := sgn_cases i.sgn
  refine ZPow_ok _ _ _ _ _ ?_
  unfold ZPow
  refine Br.of (fun e => ?_) (fun e => ?_)
  · refine powerWords_spec i.mag i.cap hx hm1 hm hn hmm ?_
    intro A1 n1 c1 h1 l1 k1 M1
    refine ⟨_, _, _, rfl, ?_⟩
    rw [band_one64 (by omega)]
    refine signed_spec M1 k1 ?_
    intro s1 i1
    refine ⟨_, _, _, _, rfl, hK _ _ _ _ _ l1 ?_⟩
    have hx' : x = -(x.natAbs : Int) := by
      rcases cx with ⟨_, h2⟩ | ⟨h2, _⟩
      · exact h2
      · rw [e] at h2; cases h2
    have : x ^ n = if ((n : Int) % 2 == 1) = true then -((x.natAbs ^ n : Nat) : Int) else ((x.natAbs ^ n : Nat) : Int) := by
      conv => lhs; rw [hx', neg_pow]
      rw [Int.natCast_pow]
      by_cases hp : n % 2 = 1
      · rw [if_pos hp, if_pos (by simp; omega)]
      · rw [if_neg hp, if_neg (by simp; omega)]
    rw [this]; exact i1
  · refine powerWords_spec i.mag i.cap hx hm1 hm hn hmm ?_
    intro A1 n1 c1 h1 l1 k1 M1
    refine ⟨_, _, _, rfl, ?_⟩
    refine signed_spec M1 k1 ?_
    intro s1 i1
    refine ⟨_, _, _, _, rfl, hK _ _ _ _ _ l1 ?_⟩
    have hx' : x = (x.natAbs : Int) := by
      rcases cx with ⟨h2, _⟩ | ⟨_, h2⟩
      · rw [e] at h2; cases h2
      · exact h2
    have : x ^ n = ((x.natAbs ^ n : Nat) : Int) := by rw [Int.natCast_pow, ← hx']
    rw [this]; exact i1
end
end Go.Proofs.YtgnclfejnndicaaGreatDoor
/-
  Powers of numbers: Ratio.Pow, rational.Pow.
-/
namespace Go.Proofs.YtgnclfejnndicaaGreatDoor
open Go
set_option maxRecDepth 20000
theorem ratpow_parts (q : Rat) (n : Nat) : (q ^ n).num = q.num ^ n ∧ (q ^ n).den = q.den ^ n := ⟨Rat.num_pow q n, Rat.den_pow q n⟩
theorem ZB.pow {m : Nat} {x : Int} (h : ZB m x) (hm : 1 ≤ m) (n : Nat) : ZB (m * n + 1) (x ^ n) := by
  unfold ZB
  rw [Int.natAbs_pow]
  exact pow_lt_two h hm n
theorem Sz.pow {m : Nat} {q : Rat} (h : Sz m q) (hm : 1 ≤ m) (n : Nat) : Sz (m * n + 1) (q ^ n) := by
  obtain ⟨h1, h2⟩ := ratpow_parts q n
  refine ⟨by rw [h1]; exact h.num.pow hm n, ?_⟩
  rw [h2, Int.natCast_pow]; exact h.den.pow hm n
section
variable {h : Heap} {K : Value → Heap → Prop} {m : Nat} {a b : List UInt8} {w : QV} {q : Rat}
theorem rpow_spec {n : Nat} (i : RQ h w q) (hq : Sz m q) (hm1 : 1 ≤ m) (hm : m * n + 1 ≤ 6400000000) (hmm : m ≤ 6400000000) (hn : n < 9223372036854775808) (hK : ∀ w h', h.le h' → RQ h' w (q ^ n) → K w.v h') : FCall Tryz.prog f_RPow #[w.v, U (n : Int)] h K := by
  obtain ⟨p1, p2⟩ := ratpow_parts q n
  refine RPow_ok _ _ _ _ _ _ _ _ _ ?_
  unfold RPow
  refine isZero_den i ⟨_, rfl, Br.dec (fun e => ?_) (fun e => ?_)⟩
  · refine zpow_spec i.num hq.num hm1 hm hmm hn ?_
    intro s1 A1 n1 c1 h1 l1 i1
    refine ⟨_, _, _, _, rfl, hK ⟨s1, A1, n1, c1, false, none, 0, 0⟩ _ l1 ⟨by rw [p1]; exact i1, ?_⟩⟩
    rw [p2, e, Nat.one_pow, if_pos rfl]; exact ZI.zero
  · have idn := i.den
    rw [if_neg e] at idn
    refine zpow_spec i.num hq.num hm1 hm hmm hn ?_
    intro s1 A1 n1 c1 h1 l1 i1
    refine ⟨_, _, _, _, rfl, l1, zpow_spec (idn.mono l1) hq.den hm1 hm hmm hn ?_⟩
    intro s2 A2 n2 c2 h2 l2 i2
    refine ⟨_, _, _, _, rfl, l2, lowest_spec (q := q ^ n) (i1.mono l2) i2 p1 (by rw [p2, Int.natCast_pow]) ?_⟩
    intro w3 i3
    exact ⟨_, _, _, _, _, _, _, _, rfl, Heap.le_refl _, hK w3 _ (Heap.le_trans l1 l2) i3⟩
theorem tpow_spec {n : Int} (gl : Gl h) (ta : Tx m a) (hm1 : 1 ≤ m) (hm : m * n.natAbs + 1 ≤ 40000000) (hmm : m ≤ 40000000)
    (hK1 : -1000 ≤ n → n ≤ 1000 → 0 ≤ n → K (.tuple #[.string (bs (txtQ (rv a ^ n.natAbs))), .bool true]) h)
    (hK2 : -1000 ≤ n → n < 0 → rv a ≠ 0 → K (.tuple #[.string (bs (txtQ ((rv a)⁻¹ ^ n.natAbs))), .bool true]) h)
    (hK0 : ¬ (-1000 ≤ n ∧ n ≤ 1000) ∨ (n < 0 ∧ rv a = 0) → K (.tuple #[.string (bs []), .bool false]) h) : FCall Tryz.prog f_TPow #[.string (bs a), I n] h K := by
  refine FCall.pure (TPow_ok _ _ ?_)
  unfold TPow
  refine Br.dec (fun e => ⟨Heap.le_refl _, hK0 (.inl (by omega))⟩) (fun e1 => Br.dec (fun e => ⟨Heap.le_refl _, hK0 (.inl (by omega))⟩) (fun e2 => ?_))
  refine value_spec gl.tz ta.len ?_
  intro w1 h1 l1 i1
  refine ⟨_, _, _, _, _, _, _, _, rfl, Br.dec (fun e3 => ?_) (fun e3 => ?_)⟩
  · refine risZero_spec i1 ⟨_, rfl, Br.dec (fun e => ⟨l1, hK0 (.inr ⟨e3, e⟩)⟩) (fun e => ?_)⟩
    refine rinverse_spec i1 ?_
    intro w2 h2 l2 i2
    have en : wu64 (wi64 (0 - n)) = (n.natAbs : Int) := by rw [wi64_id (by omega) (by omega), wu64_id (by omega) (by omega)]; omega
    rw [en]
    refine ⟨_, _, _, _, _, _, _, _, rfl, rpow_spec i2 (ta.sz.inv hm1) hm1 (by omega) (by omega) (by omega) ?_⟩
    intro w3 h3 l3 i3
    have l13 := Heap.le_trans l1 (Heap.le_trans l2 l3)
    exact ⟨_, _, _, _, _, _, _, _, rfl, rstring_spec (gl.p10.mono l13) i3 ((ta.sz.inv hm1).pow hm1 _) (by omega) ⟨_, rfl, l13, hK2 (by omega) e3 e⟩⟩
  · have en : wu64 n = (n.natAbs : Int) := by rw [wu64_id (by omega) (by omega)]; omega
    rw [en]
    refine rpow_spec i1 ta.sz hm1 (by omega) (by omega) (by omega) ?_
    intro w3 h3 l3 i3
    have l13 := Heap.le_trans l1 l3
    exact ⟨_, _, _, _, _, _, _, _, rfl, rstring_spec (gl.p10.mono l13) i3 (ta.sz.pow hm1 _) (by omega) ⟨_, rfl, l13, hK1 (by omega) (by omega) (by omega)⟩⟩
end
end Go.Proofs.YtgnclfejnndicaaGreatDoor
