/-
  Texts of this proof, merged by a program of ours: NumM, NumN, IvP.
-/
import Derived.Test.YtekkjhmfjplljaaGreatDoorG13
import Derived.Test.YtekkjhmfjplljaaGreatDoorG14
/-
  Text of numbers in the reference: Digits, FromDigits, Text, Read, Num.
-/
namespace Go.Proofs.YtekkjhmfjplljaaGreatDoor
open Go
set_option maxRecDepth 20000
theorem und_bytes : Tryz.prog.underlying ty_tBytes_e = some (.int .u8) := by kernel_rfl
theorem und_string : Tryz.prog.underlying ty_string = some .string := by kernel_rfl
def pw (e : Nat) : Nat := if e = 0 then 0 else 10 ^ (e - 1)
section
variable {h h' : Heap} {K : Value -> Heap -> Prop} {A B : Option Addr} {n c n' c' : Nat} {s s' : Bool} {x y z : Int} {m : Nat} {p q : Rat} {a b w : QV}
end
end Go.Proofs.YtekkjhmfjplljaaGreatDoor
/-
  FromDigits, Text, Read, Num.
-/
namespace Go.Proofs.YtekkjhmfjplljaaGreatDoor
open Go
set_option maxRecDepth 20000
theorem dval_lt_pow {l : List UInt8} (h : ∀ c ∈ l, isDig c) : dval l < 2 ^ (4 * l.length) := by
  have h1 := dval_lt h
  have h2 : 10 ^ l.length <= 16 ^ l.length := Nat.pow_le_pow_left (by decide) _
  have h3 : 16 ^ l.length = 2 ^ (4 * l.length) := by rw [Nat.pow_mul]
  omega
section
variable {h h' : Heap} {K : Value -> Heap -> Prop} {A B : Option Addr} {n c n' c' : Nat} {s s' : Bool} {x y z : Int} {m : Nat} {p q : Rat} {a b w : QV} {l : List UInt8}
theorem digs_len_le {n m : Nat} (h : n < 2 ^ m) : (digs n).length <= m + 1 := by
  rw [digs_len (by omega)]
  have : 2 ^ m <= 10 ^ (m + 1) := Nat.le_trans (Nat.pow_le_pow_left (by decide) m) (Nat.pow_le_pow_right (by decide) (by omega))
  omega
end
end Go.Proofs.YtekkjhmfjplljaaGreatDoor
/-
  Intervals: plain laws on numbers, no program here.
-/
namespace Go.Proofs.YtekkjhmfjplljaaGreatDoor
open Go
def mn (p q : Rat) : Rat := if q < p then q else p
def mx (p q : Rat) : Rat := if q > p then q else p
def mnL (p : Rat) (l : List Rat) : Rat := l.foldl mn p
def mxL (p : Rat) (l : List Rat) : Rat := l.foldl mx p
theorem mnL_cons (p q : Rat) (l : List Rat) : mnL p (q :: l) = mnL (mn p q) l := rfl
theorem mxL_cons (p q : Rat) (l : List Rat) : mxL p (q :: l) = mxL (mx p q) l := rfl
theorem mnL_snoc (p q : Rat) (l : List Rat) : mnL p (l ++ [q]) = mn (mnL p l) q := by simp [mnL]
theorem mxL_snoc (p q : Rat) (l : List Rat) : mxL p (l ++ [q]) = mx (mxL p l) q := by simp [mxL]
theorem mn_le (p q : Rat) : mn p q <= p /\ mn p q <= q := by unfold mn; split <;> grind
theorem le_mx (p q : Rat) : p <= mx p q /\ q <= mx p q := by unfold mx; split <;> grind
theorem mn_or (p q : Rat) : mn p q = p \/ mn p q = q := by unfold mn; split <;> simp
theorem mx_or (p q : Rat) : mx p q = p \/ mx p q = q := by unfold mx; split <;> simp
theorem inv_le_inv2 {a b : Rat} (h : a <= b) (hs : 0 < a \/ b < 0) : 1 / b <= 1 / a := by
  have ha : a ≠ 0 := by rcases hs with h1 | h1 <;> grind
  have hb : b ≠ 0 := by rcases hs with h1 | h1 <;> grind
  have e : 1 / a - 1 / b = (b - a) * (1 / (a * b)) := by grind
  have hp : 0 < a * b := by
    rcases hs with h1 | h1
    . exact Rat.mul_pos h1 (by grind)
    . have := Rat.mul_pos (show 0 < -a by grind) (show 0 < -b by grind)
      grind
  have hq : 0 < 1 / (a * b) := by
    rw [Rat.div_def, Rat.one_mul]; exact Rat.inv_pos.2 hp
  have : 0 <= (b - a) * (1 / (a * b)) := Rat.mul_nonneg (by grind) (Rat.le_of_lt hq)
  grind
theorem pow_nonneg' {x : Rat} (h : 0 <= x) : ∀ k : Nat, 0 <= x ^ k
  | 0 => by rw [Rat.pow_zero]; decide
  | k + 1 => by rw [Rat.pow_succ]; exact Rat.mul_nonneg (pow_nonneg' h k) h
theorem pow_mono' {x y : Rat} (h : 0 <= x) (hxy : x <= y) : ∀ k : Nat, x ^ k <= y ^ k
  | 0 => by rw [Rat.pow_zero, Rat.pow_zero]; exact Rat.le_refl
  | k + 1 => by
    rw [Rat.pow_succ, Rat.pow_succ]
    have h1 := pow_mono' h hxy k
    have h2 := pow_nonneg' h k
    have h3 : 0 <= x ^ k * (y - x) := Rat.mul_nonneg h2 (by grind)
    have h4 : 0 <= (y ^ k - x ^ k) * y := Rat.mul_nonneg (by grind) (by grind)
    grind
theorem neg_pow' (x : Rat) : ∀ k : Nat, (-x) ^ (2 * k) = x ^ (2 * k) /\ (-x) ^ (2 * k + 1) = -(x ^ (2 * k + 1))
  | 0 => by simp [Rat.pow_zero, Rat.pow_succ]
  | k + 1 => by
    obtain ⟨h1, h2⟩ := neg_pow' x k
    have e1 : (-x) ^ (2 * (k + 1)) = x ^ (2 * (k + 1)) := by
      rw [show 2 * (k + 1) = (2 * k + 1) + 1 by omega, Rat.pow_succ, Rat.pow_succ, h1, Rat.pow_succ, Rat.pow_succ]; grind
    refine ⟨e1, ?_⟩
    rw [Rat.pow_succ, Rat.pow_succ, e1]; grind
theorem pow_even {x : Rat} {k : Nat} (h : k % 2 = 0) : (-x) ^ k = x ^ k := by
  obtain ⟨j, rfl⟩ : ∃ j, k = 2 * j := ⟨k / 2, by omega⟩
  exact (neg_pow' x j).1
theorem pow_odd {x : Rat} {k : Nat} (h : k % 2 = 1) : (-x) ^ k = -(x ^ k) := by
  obtain ⟨j, rfl⟩ : ∃ j, k = 2 * j + 1 := ⟨k / 2, by omega⟩
  exact (neg_pow' x j).2
theorem pow_even_nonneg (x : Rat) {k : Nat} (h : k % 2 = 0) : 0 <= x ^ k := by
  by_cases hx : 0 <= x
  . exact pow_nonneg' hx k
  . rw [<- pow_even h]; exact pow_nonneg' (by grind) k
def powLo (a b : Rat) (k : Nat) : Rat := if 0 < k /\ k % 2 = 0 /\ a < 0 /\ 0 < b then mnL 0 [a ^ k, b ^ k] else mn (a ^ k) (b ^ k)
def powHi (a b : Rat) (k : Nat) : Rat := if 0 < k /\ k % 2 = 0 /\ a < 0 /\ 0 < b then mxL 0 [a ^ k, b ^ k] else mx (a ^ k) (b ^ k)
theorem mul_between {a b x y : Rat} (h1 : a <= x) (h2 : x <= b) : mn (a * y) (b * y) <= x * y /\ x * y <= mx (a * y) (b * y) := by
  have g1 := mn_le (a * y) (b * y)
  have g2 := le_mx (a * y) (b * y)
  by_cases hy : 0 <= y
  . have e1 : 0 <= (x - a) * y := Rat.mul_nonneg (by grind) hy
    have e2 : 0 <= (b - x) * y := Rat.mul_nonneg (by grind) hy
    grind
  . have e1 : 0 <= (x - a) * (-y) := Rat.mul_nonneg (by grind) (by grind)
    have e2 : 0 <= (b - x) * (-y) := Rat.mul_nonneg (by grind) (by grind)
    grind
theorem mnL_le (l : List Rat) : ∀ p : Rat, mnL p l <= p /\ ∀ q ∈ l, mnL p l <= q := by
  induction l with
  | nil => intro p; exact ⟨Rat.le_refl, by simp⟩
  | cons q l ih =>
    intro p
    rw [mnL_cons]
    obtain ⟨h1, h2⟩ := ih (mn p q)
    obtain ⟨h3, h4⟩ := mn_le p q
    refine ⟨Rat.le_trans h1 h3, fun r hr => ?_⟩
    rcases List.mem_cons.1 hr with rfl | hr
    . exact Rat.le_trans h1 h4
    . exact h2 r hr
theorem le_mxL (l : List Rat) : ∀ p : Rat, p <= mxL p l /\ ∀ q ∈ l, q <= mxL p l := by
  induction l with
  | nil => intro p; exact ⟨Rat.le_refl, by simp⟩
  | cons q l ih =>
    intro p
    rw [mxL_cons]
    obtain ⟨h1, h2⟩ := ih (mx p q)
    obtain ⟨h3, h4⟩ := le_mx p q
    refine ⟨Rat.le_trans h3 h1, fun r hr => ?_⟩
    rcases List.mem_cons.1 hr with rfl | hr
    . exact Rat.le_trans h4 h1
    . exact h2 r hr
def mulLo (a b c d : Rat) : Rat := mnL (a * c) [a * d, b * c, b * d]
def mulHi (a b c d : Rat) : Rat := mxL (a * c) [a * d, b * c, b * d]
theorem mul_box {a b c d x y : Rat} (h1 : a <= x) (h2 : x <= b) (h3 : c <= y) (h4 : y <= d) : mulLo a b c d <= x * y /\ x * y <= mulHi a b c d := by
  obtain ⟨l0, l1⟩ := mnL_le [a * d, b * c, b * d] (a * c)
  obtain ⟨u0, u1⟩ := le_mxL [a * d, b * c, b * d] (a * c)
  have l2 := l1 (a * d) (by simp)
  have l3 := l1 (b * c) (by simp)
  have l4 := l1 (b * d) (by simp)
  have u2 := u1 (a * d) (by simp)
  have u3 := u1 (b * c) (by simp)
  have u4 := u1 (b * d) (by simp)
  obtain ⟨p1, p2⟩ := mul_between (y := y) h1 h2
  have q1 := mul_between (y := a) h3 h4
  have q2 := mul_between (y := b) h3 h4
  have m1 := mn_or (c * a) (d * a)
  have m2 := mn_or (c * b) (d * b)
  have m3 := mx_or (c * a) (d * a)
  have m4 := mx_or (c * b) (d * b)
  have m5 := mn_or (a * y) (b * y)
  have m6 := mx_or (a * y) (b * y)
  unfold mulLo mulHi
  have e1 : c * a = a * c := Rat.mul_comm _ _
  have e2 : d * a = a * d := Rat.mul_comm _ _
  have e3 : c * b = b * c := Rat.mul_comm _ _
  have e4 : d * b = b * d := Rat.mul_comm _ _
  have e5 : y * a = a * y := Rat.mul_comm _ _
  have e6 : y * b = b * y := Rat.mul_comm _ _
  rw [e1, e2] at m1 m3 q1
  rw [e3, e4] at m2 m4 q2
  rw [e5] at q1
  rw [e6] at q2
  grind
theorem pow_box {a b x : Rat} (k : Nat) (h1 : a <= x) (h2 : x <= b) : powLo a b k <= x ^ k /\ x ^ k <= powHi a b k := by
  have g1 := mn_le (a ^ k) (b ^ k)
  have g2 := le_mx (a ^ k) (b ^ k)
  unfold powLo powHi
  by_cases hc : 0 < k /\ k % 2 = 0 /\ a < 0 /\ 0 < b
  . rw [if_pos hc, if_pos hc]
    obtain ⟨l0, l1⟩ := mnL_le [a ^ k, b ^ k] 0
    obtain ⟨u0, u1⟩ := le_mxL [a ^ k, b ^ k] 0
    have u2 := u1 (a ^ k) (by simp)
    have u3 := u1 (b ^ k) (by simp)
    have h0 := pow_even_nonneg x hc.2.1
    refine ⟨by grind, ?_⟩
    by_cases hx : 0 <= x
    . have := pow_mono' hx h2 k; grind
    . have := pow_mono' (x := -x) (y := -a) (by grind) (by grind) k
      rw [pow_even hc.2.1, pow_even hc.2.1] at this
      grind
  . rw [if_neg hc, if_neg hc]
    by_cases hk : k = 0
    . subst hk
      rw [Rat.pow_zero] at *
      rw [Rat.pow_zero] at *
      rw [Rat.pow_zero] at *
      grind
    by_cases he : k % 2 = 0
    . by_cases ha : 0 <= a
      . have e1 := pow_mono' ha h1 k
        have e2 := pow_mono' (x := x) (by grind) h2 k
        grind
      . have hb : b <= 0 := by
          have : ¬ 0 < b := fun h => hc ⟨by omega, he, by grind, h⟩
          grind
        have e1 := pow_mono' (x := -x) (y := -a) (by grind) (by grind) k
        have e2 := pow_mono' (x := -b) (y := -x) (by grind) (by grind) k
        rw [pow_even he, pow_even he] at e1 e2
        grind
    . have ho : k % 2 = 1 := by omega
      have mono : ∀ {x y : Rat}, x <= y -> x ^ k <= y ^ k := by
        intro x y hxy
        by_cases hx : 0 <= x
        . exact pow_mono' hx hxy k
        . have n1 := pow_nonneg' (x := -x) (by grind) k
          rw [pow_odd ho] at n1
          by_cases hy : 0 <= y
          . have := pow_nonneg' hy k; grind
          . have e1 := pow_mono' (x := -y) (y := -x) (by grind) (by grind) k
            rw [pow_odd ho, pow_odd ho] at e1
            grind
      have e1 := mono h1
      have e2 := mono h2
      grind
end Go.Proofs.YtekkjhmfjplljaaGreatDoor
