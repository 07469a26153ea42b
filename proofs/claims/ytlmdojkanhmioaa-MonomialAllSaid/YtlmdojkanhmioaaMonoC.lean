/-
  The reference's arithmetic; parity; counts and indices; equality of lists of numbers.
-/
import Derived.Test.YtlmdojkanhmioaaMonoB
namespace Go.Proofs.Ytlmdojkanhmioaa
open Go
/-! ### plain -/
def inRange (n d : Int) : Bool := decide (0 ≤ n ∧ n ≤ 6 ∧ 0 ≤ d ∧ d ≤ 24)
def cntF (n d : Int) : Int := if inRange n d then chooseGo (n + d) n n.toNat else 0
theorem chooseF_cnt {n d : Int} (h : inRange n d = true) : chooseF (n + d) n = cntF n d := by
  have h' := of_decide_eq_true h
  unfold chooseF cntF
  rw [if_neg (by omega), if_pos h]
theorem cnt_bound (n d : Int) : 0 ≤ cntF n d ∧ cntF n d ≤ 1000000 := by
  unfold cntF
  split
  · rename_i h
    have h' := of_decide_eq_true h
    exact chooseGo_bound (by omega) (by omega) h'.1 h'.2.1 (by omega) (by omega)
  · omega
def sumOne (i : Int) : Nat → Int
  | 0 => 0
  | t + 1 => sumOne i t + cntF (i - 1) t
theorem sumOne_all : ∀ i : Fin 6, ∀ t : Fin 26, sumOne ((i : Nat) + 1 : Int) t = chooseF ((i : Nat) + 1 + (t : Nat) - 1 : Int) ((i : Nat) + 1 : Int) := by decide +kernel
theorem sumOne_eq {i d : Int} (h1 : 1 ≤ i) (h2 : i ≤ 6) (h3 : 0 ≤ d) (h4 : d ≤ 25) : sumOne i d.toNat = chooseF (i + d - 1) i := by
  have := sumOne_all ⟨(i - 1).toNat, by omega⟩ ⟨d.toNat, by omega⟩
  simp only [Int.toNat_of_nonneg (show 0 ≤ i - 1 by omega), Int.toNat_of_nonneg h3, Int.sub_add_cancel] at this
  exact this
theorem chooseF_bound {n k : Int} (hn : n ≤ 30) (hk0 : 0 ≤ k) (hk : k ≤ 6) : 0 ≤ chooseF n k ∧ chooseF n k ≤ 1000000 := by
  unfold chooseF
  split
  · omega
  · exact chooseGo_bound (by omega) hn hk0 hk (by omega) (by omega)
def idxGo (xs : List Int) : Nat → Int → Int
  | 0, _ => 0
  | i + 1, deg => chooseF (((i + 1 : Nat) : Int) + (deg - xs.getD (i + 1) 0) - 1) ((i + 1 : Nat) : Int) + idxGo xs i (deg - xs.getD (i + 1) 0)
def idxF (xs : List Int) : Int := chooseF (xs.length + degF xs - 1) xs.length + idxGo xs (xs.length - 1) (degF xs)
theorem idxGo_bound (xs : List Int) : ∀ (i : Nat) (deg : Int), i ≤ 6 → (∀ k, 0 ≤ xs.getD k 0) → deg ≤ 24 → 0 ≤ idxGo xs i deg ∧ idxGo xs i deg ≤ 1000000 * i
  | 0, _, _, _, _ => by simp [idxGo]
  | i + 1, deg, hi, hx, hd => by
    have h1 := hx (i + 1)
    have h2 := idxGo_bound xs i (deg - xs.getD (i + 1) 0) (by omega) hx (by omega)
    have h3 := chooseF_bound (n := ((i + 1 : Nat) : Int) + (deg - xs.getD (i + 1) 0) - 1) (k := ((i + 1 : Nat) : Int)) (by omega) (by omega) (by omega)
    simp only [idxGo]; omega

section
variable {h : Heap} {K : Value → Heap → Prop} {a b : List Int} {A B : Option Addr} {ac bc : Nat}
theorem mcount_spec {n d : Int} (hK : K (.tuple #[I (cntF n d), .bool (inRange n d)]) h) : FCall Try.prog f_MCount #[I n, I d] h K := by
  refine MCount_ok _ _ ?_
  unfold MCount
  have no : ¬ (0 ≤ n ∧ n ≤ 6 ∧ 0 ≤ d ∧ d ≤ 24) → K (.tuple #[I 0, .bool false]) h := fun hx => by
    have : inRange n d = false := decide_eq_false hx
    simpa [cntF, this] using hK
  refine Br.dec (fun h1 => no (by omega)) (fun h1 => Br.dec (fun h2 => no (by omega)) (fun h2 => Br.dec (fun h3 => no (by omega)) (fun h3 => Br.dec (fun h4 => no (by omega)) (fun h4 => ?_))))
  rw [wi64_id (by omega) (by omega)]
  have hr : inRange n d = true := decide_eq_true (by omega)
  refine choose_spec (by omega) (by omega) (by omega) (by omega) ⟨_, rfl, ?_⟩
  rw [chooseF_cnt hr, ← hr]; exact hK
theorem rcount_spec {n d : Int} (hK : K (.tuple #[I (cntF n d), .bool (inRange n d)]) h) : FCall Try.prog f_RCount #[I n, I d] h K := by
  refine RCount_ok _ _ ?_
  unfold RCount
  have no : ¬ (0 ≤ n ∧ n ≤ 6 ∧ 0 ≤ d ∧ d ≤ 24) → K (.tuple #[I 0, .bool false]) h := fun hx => by
    have : inRange n d = false := decide_eq_false hx
    simpa [cntF, this] using hK
  refine Br.dec (fun h1 => no (by omega)) (fun h1 => Br.dec (fun h2 => no (by omega)) (fun h2 => Br.dec (fun h3 => no (by omega)) (fun h3 => Br.dec (fun h4 => no (by omega)) (fun h4 => ?_))))
  have hr : inRange n d = true := decide_eq_true (by omega)
  refine ⟨fun l h' => ∃ i : Nat, l = [I (chooseGo (n + d) n i), I (i + 1)] ∧ (i : Int) ≤ n ∧ h' = h, fun l _ => (n + 1 - iAt l 1).toNat, ⟨0, rfl, by omega, rfl⟩, ?_⟩
  rintro c i hp ⟨m, hl, hm, rfl⟩
  obtain ⟨rfl, rfl⟩ : c = chooseGo (n + d) n m ∧ i = (m : Int) + 1 := by simpa using hl
  have hb := chooseGo_bound (n := n + d) (k := n) (i := m) (by omega) (by omega) (by omega) (by omega) (by omega) hm
  refine Br.dec (fun h2 => Br.dec (fun h3 => by omega) (fun _ => ?_)) (fun h2 => ?_)
  · have hb2 := chooseGo_bound (n := n + d) (k := n) (i := m + 1) (by omega) (by omega) (by omega) (by omega) (by omega) (by omega)
    have hx : chooseGo (n + d) n m * (d + (m + 1)) ≤ 1000000 * 40 := Int.mul_le_mul hb.2 (by omega) (by omega) (by omega)
    have hx0 : 0 ≤ chooseGo (n + d) n m * (d + (m + 1)) := Int.mul_nonneg hb.1 (by omega)
    have e2 : wi64 (d + ((m : Int) + 1)) = d + (m + 1) := wi64_id (by omega) (by omega)
    have e3 : wi64 (chooseGo (n + d) n m * wi64 (d + ((m : Int) + 1))) = chooseGo (n + d) n m * (d + (m + 1)) := by rw [e2, wi64_id (by omega) (by omega)]
    have e4 : wi64 (Int.tdiv (wi64 (chooseGo (n + d) n m * wi64 (d + ((m : Int) + 1)))) ((m : Int) + 1)) = chooseGo (n + d) n (m + 1) := by
      have e6 : chooseGo (n + d) n (m + 1) = Int.tdiv (chooseGo (n + d) n m * (d + (m + 1))) (m + 1) := by
        rw [chooseGo]; congr 2; omega
      rw [e3, ← e6]
      exact wi64_id (by omega) (by omega)
    have e5 : wi64 ((m : Int) + 1 + 1) = ((m + 1 : Nat) : Int) + 1 := by rw [wi64_id (by omega) (by omega)]; omega
    rw [e4, e5]
    exact ⟨⟨m + 1, rfl, by omega, rfl⟩, by simp only [iAt, List.getElem?_cons_succ, List.getElem?_cons_zero]; omega⟩
  · have : m = n.toNat := by omega
    subst this
    simpa [cntF, hr] using hK
theorem rcountone_spec {n d : Int} (hn : 0 ≤ n) (hn2 : n ≤ 100) (hK : K (I (cntF (n - 1) d)) h) : FCall Try.prog f_RCountOne #[I n, I d] h K := by
  refine RCountOne_ok _ _ ?_
  unfold RCountOne
  rw [wi64_id (by omega) (by omega)]
  exact rcount_spec ⟨_, _, rfl, hK⟩
theorem mindex_spec (s : SlI .i64 h A a) (hK : K (.tuple #[I (if validB a then idxF a else 0), .bool (validB a)]) h) : FCall Try.prog f_MIndex #[.slice A a.length ac] h K := by
  refine MIndex_ok _ _ _ ?_
  unfold MIndex
  refine mdegree_spec s ⟨_, rfl, Br.dec (fun h1 => ?_) (fun h1 => ?_)⟩
  · have : validB a = false := decide_eq_false (by omega)
    simpa [this] using hK
  · have hv : validB a = true := decide_eq_true (by omega)
    obtain ⟨hl, _, hd, h24⟩ := valid_facts hv
    rw [← hd] at h24
    rw [hv, if_pos rfl] at hK
    rw [wi64_id (n := (a.length : Int) + degF a) (by omega) (by omega), wi64_id (by omega) (by omega)]
    have hc := chooseF_bound (n := (a.length : Int) + degF a - 1) (k := (a.length : Int)) (by omega) (by omega) (by omega)
    refine choose_spec (by omega) (by omega) (by omega) (by omega) ⟨_, rfl, ?_⟩
    by_cases h0 : a.length = 0
    · refine ⟨fun l h' => l = [I (degF a), I (chooseF ((a.length : Int) + degF a - 1) a.length), I (-1)] ∧ h' = h, fun _ _ => 0, ⟨?_, rfl⟩, ?_⟩
      · rw [h0]; rfl
      · rintro degree index i hp ⟨hl', rfl⟩
        obtain ⟨rfl, rfl, rfl⟩ : degree = degF a ∧ index = chooseF ((a.length : Int) + degF a - 1) a.length ∧ i = -1 := by simpa using hl'
        refine Br.dec (fun h2 => by omega) (fun h2 => ?_)
        have : idxF a = chooseF ((a.length : Int) + degF a - 1) a.length := by
          unfold idxF; rw [h0]; simp [idxGo]
        rw [← this]; exact hK
    refine ⟨fun l h' => ∃ (i : Nat) (deg ix : Int), l = [I deg, I ix, I i] ∧ i ≤ a.length - 1 ∧ ix + idxGo a i deg = idxF a ∧ 0 ≤ ix ∧ ix ≤ 1000000 * (8 - i) ∧ deg = (a.take (i + 1)).sum ∧ h' = h, fun l _ => (iAt l 2).toNat, ⟨a.length - 1, degF a, chooseF ((a.length : Int) + degF a - 1) a.length, ?_, by omega, rfl, hc.1, by omega, ?_, rfl⟩, ?_⟩
    · congr 3
      rw [wi64_id (by omega) (by omega)]; congr 1; omega
    · rw [show a.length - 1 + 1 = a.length by omega, List.take_length]; exact hd
    · rintro degree index i hp ⟨k, deg, ix, hl', hk, hsum, hx0, hx1, hsm, rfl⟩
      obtain ⟨rfl, rfl, rfl⟩ : degree = deg ∧ index = ix ∧ i = (k : Int) := by simpa using hl'
      refine Br.dec (fun h2 => ?_) (fun h2 => ?_)
      · obtain ⟨k, rfl⟩ : ∃ m, k = m + 1 := ⟨k - 1, by omega⟩
        refine s.load rfl (by omega) (by omega) ?_
        rw [Int.toNat_natCast]
        have ha := valid_at hv (k + 1)
        have hst := sum_take_succ (xs := a) (k := k + 1) (by omega)
        have hst1 := sum_take_le hv (k + 1 + 1)
        have hst2 := sum_take_le hv (k + 1)
        have e1 : wi64 (degree - a.getD (k + 1) 0) = degree - a.getD (k + 1) 0 := wi64_id (by omega) (by omega)
        have e2 : wi64 (((k + 1 : Nat) : Int) + (degree - a.getD (k + 1) 0)) = ((k + 1 : Nat) : Int) + (degree - a.getD (k + 1) 0) := wi64_id (by omega) (by omega)
        rw [e1, e2, wi64_id (n := ((k + 1 : Nat) : Int) + (degree - a.getD (k + 1) 0) - 1) (by omega) (by omega)]
        have hc := chooseF_bound (n := ((k + 1 : Nat) : Int) + (degree - a.getD (k + 1) 0) - 1) (k := ((k + 1 : Nat) : Int)) (by omega) (by omega) (by omega)
        refine choose_spec (by omega) (by omega) (by omega) (by omega) ⟨_, rfl, ?_⟩
        simp only [idxGo] at hsum
        clear e1 e2
        rw [wi64_id (n := index + _) (by omega) (by omega), wi64_id (n := ((k + 1 : Nat) : Int) - 1) (by omega) (by omega)]
        refine ⟨⟨k, degree - a.getD (k + 1) 0, index + chooseF (((k + 1 : Nat) : Int) + (degree - a.getD (k + 1) 0) - 1) ((k + 1 : Nat) : Int), ?_, by omega, by omega, by omega, by omega, by omega, rfl⟩, by simp only [iAt, List.getElem?_cons_succ, List.getElem?_cons_zero]; omega⟩
        congr 3; congr 1; omega
      · have hk0 : k = 0 := by omega
        subst hk0
        simp only [idxGo] at hsum
        rw [show index = idxF a by omega]; exact hK
theorem rindex_loop {t12 : Int} {out0 : Int} {h : Heap} {K : Value → Heap → Prop} (s : SlI .i64 h A a) (hv : validB a = true) (ht : t12 = degF a) (ho : out0 = chooseF (a.length + degF a - 1) a.length) (hK : K (.tuple #[I (idxF a), .bool true]) h) :
    ∃ (Invv : List Value → Heap → Prop) (muv : List Value → Heap → Nat), Invv [I t12, I out0, I ((a.length : Nat) : Int)] h ∧
  ∀ (d : Int) (out : Int) (n : Int), ∀ hp3, Invv [I d, I out, I n] hp3 → Br (decide (n > (1 : Int))) (∃ a', A = some a' ∧ 0 ≤ wi64 (n - (1 : Int)) ∧ wi64 (n - (1 : Int)) < (a.length : Int) ∧ ∃ (t33 : Int), Heap.cell? hp3 (Addr.add a' ((wi64 (n - (1 : Int))).toNat * 1)) = some (I t33) ∧ ∃ (Invv1 : List Value → Heap → Prop) (muv1 : List Value → Heap → Nat), Invv1 [I out, I (wi64 (t33 + (1 : Int)))] hp3 ∧
  ∀ (out1 : Int) (e : Int), ∀ hp4, Invv1 [I out1, I e] hp4 → Br (decide (e ≤ d)) (FCall Try.prog f_RCountOne #[I (wi64 (n - (1 : Int))), I (wi64 (d - e))] hp4 (fun r3 hp5 => ∃ (t46 : Int), r3 = I t46 ∧ Invv1 [I (wi64 (out1 + t46)), I (wi64 (e + (1 : Int)))] hp5 ∧ muv1 [I (wi64 (out1 + t46)), I (wi64 (e + (1 : Int)))] hp5 < muv1 [I out1, I e] hp4))
  (∃ a1, A = some a1 ∧ 0 ≤ wi64 (n - (1 : Int)) ∧ wi64 (n - (1 : Int)) < (a.length : Int) ∧ ∃ (t53 : Int), Heap.cell? hp4 (Addr.add a1 ((wi64 (n - (1 : Int))).toNat * 1)) = some (I t53) ∧ Invv [I (wi64 (d - t53)), I out1, I (wi64 (n - (1 : Int)))] hp4 ∧ muv [I (wi64 (d - t53)), I out1, I (wi64 (n - (1 : Int)))] hp4 < muv [I d, I out, I n] hp3))
  (K (.tuple #[I out, .bool true]) hp3) := by
  obtain ⟨hl, _, hd, h24⟩ := valid_facts hv
  have hd0 : 0 ≤ degF a := of_decide_eq_true hv
  rw [← hd] at h24
  have hc := chooseF_bound (n := (a.length : Int) + degF a - 1) (k := (a.length : Int)) (by omega) (by omega) (by omega)
  refine ⟨fun l h' => ∃ (k : Nat) (dd ix : Int), l = [I dd, I ix, I k] ∧ k ≤ a.length ∧ dd = (a.take k).sum ∧ ix + idxGo a (k - 1) dd = idxF a ∧ 0 ≤ ix ∧ ix ≤ 1000000 * (9 - k) ∧ h' = h, fun l _ => (iAt l 2).toNat, ⟨a.length, t12, out0, rfl, by omega, by rw [List.take_length, ht, hd], by rw [ho, ht]; rfl, by omega, by omega, rfl⟩, ?_⟩
  rintro d out n hp ⟨k, dd, ix, hl', hk, hds, hsum, hx0, hx1, rfl⟩
  obtain ⟨rfl, rfl, rfl⟩ : d = dd ∧ out = ix ∧ n = (k : Int) := by simpa using hl'
  refine Br.dec (fun h2 => ?_) (fun h2 => ?_)
  · obtain ⟨k, rfl⟩ : ∃ m, k = m + 2 := ⟨k - 2, by omega⟩
    have e1 : wi64 (((k + 2 : Nat) : Int) - 1) = ((k + 1 : Nat) : Int) := by rw [wi64_id (by omega) (by omega)]; omega
    rw [e1]
    refine s.load rfl (by omega) (by omega) ?_
    rw [Int.toNat_natCast]
    have ha := valid_at hv (k + 1)
    have hst : (a.take (k + 2)).sum = (a.take (k + 1)).sum + a.getD (k + 1) 0 := sum_take_succ (xs := a) (k := k + 1) (by omega)
    have hst1 := sum_take_le hv (k + 2)
    have hst2 := sum_take_le hv (k + 1)
    have hS := sumOne_eq (i := ((k + 1 : Nat) : Int)) (d := d - a.getD (k + 1) 0) (by omega) (by omega) (by omega) (by omega)
    have hcb := chooseF_bound (n := ((k + 1 : Nat) : Int) + (d - a.getD (k + 1) 0) - 1) (k := ((k + 1 : Nat) : Int)) (by omega) (by omega) (by omega)
    rw [wi64_id (n := a.getD (k + 1) 0 + 1) (by omega) (by omega)]
    refine ⟨fun l h' => ∃ (t : Nat) (o : Int), l = [I o, I (d - t + 1)] ∧ (t : Int) ≤ d - a.getD (k + 1) 0 ∧ o + sumOne ((k + 1 : Nat) : Int) t = out + sumOne ((k + 1 : Nat) : Int) (d - a.getD (k + 1) 0).toNat ∧ out ≤ o ∧ h' = hp, fun l _ => (d + 1 - iAt l 1).toNat, ⟨(d - a.getD (k + 1) 0).toNat, out, by congr 3; congr 1; omega, by omega, rfl, by omega, rfl⟩, ?_⟩
    rintro o e hp4 ⟨t, o', hl4, ht4, hsum4, hle4, rfl⟩
    obtain ⟨rfl, rfl⟩ : o = o' ∧ e = d - t + 1 := by simpa using hl4
    have hnn : ∀ m, 0 ≤ sumOne ((k + 1 : Nat) : Int) m := by
      intro m
      induction m with
      | zero => simp [sumOne]
      | succ m ih => have := (cnt_bound (((k + 1 : Nat) : Int) - 1) m).1; simp only [sumOne]; omega
    have hnt := hnn t
    refine Br.dec (fun h3 => ?_) (fun h3 => ?_)
    · obtain ⟨t, rfl⟩ : ∃ m, t = m + 1 := ⟨t - 1, by omega⟩
      rw [wi64_id (n := d - (d - ((t + 1 : Nat) : Int) + 1)) (by omega) (by omega), show d - (d - ((t + 1 : Nat) : Int) + 1) = (t : Int) by omega]
      have hcb2 := cnt_bound (((k + 1 : Nat) : Int) - 1) t
      simp only [sumOne] at hsum4
      have := hnn t
      refine rcountone_spec (by omega) (by omega) ⟨_, rfl, ?_⟩
      rw [wi64_id (n := o + _) (by omega) (by omega), wi64_id (n := d - ((t + 1 : Nat) : Int) + 1 + 1) (by omega) (by omega)]
      exact ⟨⟨t, _, by congr 3; congr 1; omega, by omega, by omega, by omega, rfl⟩, by simp only [iAt, List.getElem?_cons_succ, List.getElem?_cons_zero]; omega⟩
    · have ht0 : t = 0 := by omega
      subst ht0
      simp only [sumOne] at hsum4
      refine s.load rfl (by omega) (by omega) ?_
      rw [Int.toNat_natCast, wi64_id (n := d - a.getD (k + 1) 0) (by omega) (by omega)]
      have hsum' : out + (chooseF (((k + 1 : Nat) : Int) + (d - a.getD (k + 1) 0) - 1) ((k + 1 : Nat) : Int) + idxGo a k (d - a.getD (k + 1) 0)) = idxF a := hsum
      refine ⟨⟨k + 1, _, _, rfl, by omega, by omega, ?_, by omega, by omega, rfl⟩, by simp only [iAt, List.getElem?_cons_succ, List.getElem?_cons_zero]; omega⟩
      rw [Nat.add_sub_cancel, hS] at *; omega
  · have : idxGo a (k - 1) d = 0 := by rw [show k - 1 = 0 by omega]; rfl
    rw [show out = idxF a by omega]; exact hK
theorem rindex_spec (s : SlI .i64 h A a) (hK : K (.tuple #[I (if validB a then idxF a else 0), .bool (validB a)]) h) : FCall Try.prog f_RIndex #[.slice A a.length ac] h K := by
  refine RIndex_ok _ _ _ ?_
  unfold RIndex
  refine rvalid_spec s ⟨_, rfl, Br.not (Br.of (fun h1 => ?_) (fun h1 => by simpa [h1] using hK))⟩
  rw [h1, if_pos rfl] at hK
  obtain ⟨hl, _, hd, h24⟩ := valid_facts h1
  have hd0 : 0 ≤ degF a := of_decide_eq_true h1
  rw [← hd] at h24
  refine rdegree_spec s ⟨_, rfl, Br.dec (fun h2 => ?_) (fun h2 => ?_)⟩
  · rw [wi64_id (by omega) (by omega)]
    refine rcount_spec ⟨_, _, rfl, ?_⟩
    refine rindex_loop s h1 rfl ?_ hK
    rw [← chooseF_cnt (by simp [inRange]; omega)]; congr 1; omega
  · refine rindex_loop s h1 rfl ?_ hK
    unfold chooseF; rw [if_pos (by omega)]

theorem rmul_spec (sa : SlI .i64 h A a) (sb : SlI .i64 h B b) (hno : (pairB a b && validB (opL (fun x y => x + y) a b)) = false → ∀ h', h.le h' → K (.tuple #[.slice none 0 0, .bool false]) h') (hyes : (pairB a b && validB (opL (fun x y => x + y) a b)) = true → ∀ A' h', h.le h' → SlI .i64 h' A' (opL (fun x y => x + y) a b) → K (.tuple #[.slice A' (opL (fun x y => x + y) a b).length (opL (fun x y => x + y) a b).length, .bool true]) h') :
    FCall Try.prog f_RMul #[.slice A a.length ac, .slice B b.length bc] h K := by
  refine RMul_ok _ _ _ _ _ _ ?_
  unfold RMul
  refine rpair_spec sa sb ⟨_, rfl, Br.not (Br.of (fun h1 => ?_) (fun h1 => hno (by simp [h1]) h (Heap.le_refl h)))⟩
  obtain ⟨hl, va, vb⟩ := pair_facts h1
  have hl6 := (valid_facts va).1
  refine make_ok tInts (by omega) (by omega) (by omega) (by omega) ?_
  intro nb hnb
  refine ⟨_, _, _, rfl, ?_⟩
  rw [Int.toNat_natCast]
  refine ⟨fun l h' => ∃ k : Nat, l = [I k] ∧ k ≤ a.length ∧ h' = h.put nb (.cells (fillL I (I 0) (opL (fun x y => x + y) a b) k).toArray ty_tInts_e), fun l _ => a.length - (iAt l 0).toNat, ⟨0, rfl, by omega, ?_⟩, ?_⟩
  · rw [fillL_zero, opL_length]; congr 2; exact repCells_one _ _
  rintro i hp ⟨k, hl', hk, rfl⟩
  obtain rfl : i = (k : Int) := by simpa using hl'
  have hle : ∀ o', h.le (h.put nb o') := fun o' => Heap.le_put o' hnb
  refine Br.dec (fun h2 => ?_) (fun h2 => ?_)
  · refine (sa.mono (hle _)).load rfl (by omega) (by omega) ?_
    refine (sb.mono (hle _)).load rfl (by omega) (by omega) ?_
    rw [Int.toNat_natCast]
    have ha := valid_at va k
    have hb := valid_at vb k
    refine ⟨_, rfl, by omega, by omega, ?_⟩
    rw [wi64_id (n := (k : Int) + 1) (by omega) (by omega)]
    refine storeFill_ok tInts_one (zs := opL (fun x y => x + y) a b) (i := k) (by rw [opL_length]; omega) ?_ ⟨⟨k + 1, by simp, by omega, rfl⟩, by simp only [iAt, List.getElem?_cons_zero]; omega⟩
    rw [opL_at]
    exact wi64_id (by omega) (by omega)
  · have hka : k = a.length := by omega
    subst hka
    have hn : a.length = (opL (fun x y => x + y) a b).length := (opL_length _ _ _).symm
    have hs : SlI .i64 (h.put nb (.cells (fillL I (I 0) (opL (fun x y => x + y) a b) a.length).toArray ty_tInts_e)) (some ⟨nb, 0, none⟩) (opL (fun x y => x + y) a b) := by
      rw [hn, fillL_all]; exact SlI.new h nb _ _ _
    have hv : FCall Try.prog f_RValid #[.slice (some ⟨nb, 0, none⟩) a.length a.length] (h.put nb (.cells (fillL I (I 0) (opL (fun x y => x + y) a b) a.length).toArray ty_tInts_e)) fun r hp5 => ∃ t37 : Bool, r = .bool t37 ∧ Br (!t37) (K (.tuple #[.slice none 0 0, .bool false]) hp5) (K (.tuple #[.slice (some ⟨nb, 0, none⟩) a.length a.length, .bool true]) hp5) := by
      rw [hn] at hs ⊢
      refine rvalid_spec hs ⟨_, rfl, Br.not (Br.of (fun h3 => ?_) (fun h3 => ?_))⟩
      · exact hyes (by rw [h1, h3]; rfl) _ _ (hle _) hs
      · exact hno (by rw [h1, h3]; rfl) _ (hle _)
    exact hv

theorem rlcm_spec (sa : SlI .i64 h A a) (sb : SlI .i64 h B b) (hno : (pairB a b && validB (opL (fun x y => if y > x then y else x) a b)) = false → ∀ h', h.le h' → K (.tuple #[.slice none 0 0, .bool false]) h') (hyes : (pairB a b && validB (opL (fun x y => if y > x then y else x) a b)) = true → ∀ A' h', h.le h' → SlI .i64 h' A' (opL (fun x y => if y > x then y else x) a b) → K (.tuple #[.slice A' (opL (fun x y => if y > x then y else x) a b).length (opL (fun x y => if y > x then y else x) a b).length, .bool true]) h') :
    FCall Try.prog f_RLcm #[.slice A a.length ac, .slice B b.length bc] h K := by
  refine RLcm_ok _ _ _ _ _ _ ?_
  unfold RLcm
  refine rpair_spec sa sb ⟨_, rfl, Br.not (Br.of (fun h1 => ?_) (fun h1 => hno (by simp [h1]) h (Heap.le_refl h)))⟩
  obtain ⟨hl, va, vb⟩ := pair_facts h1
  have hl6 := (valid_facts va).1
  refine make_ok tInts (by omega) (by omega) (by omega) (by omega) ?_
  intro nb hnb
  refine ⟨_, _, _, rfl, ?_⟩
  rw [Int.toNat_natCast]
  refine ⟨fun l h' => ∃ k : Nat, l = [I k] ∧ k ≤ a.length ∧ h' = h.put nb (.cells (fillL I (I 0) (opL (fun x y => if y > x then y else x) a b) k).toArray ty_tInts_e), fun l _ => a.length - (iAt l 0).toNat, ⟨0, rfl, by omega, ?_⟩, ?_⟩
  · rw [fillL_zero, opL_length]; congr 2; exact repCells_one _ _
  rintro i hp ⟨k, hl', hk, rfl⟩
  obtain rfl : i = (k : Int) := by simpa using hl'
  have hle : ∀ o', h.le (h.put nb o') := fun o' => Heap.le_put o' hnb
  refine Br.dec (fun h2 => ?_) (fun h2 => ?_)
  · refine (sa.mono (hle _)).load rfl (by omega) (by omega) ?_
    refine (sb.mono (hle _)).load rfl (by omega) (by omega) ?_
    rw [Int.toNat_natCast]
    have ha := valid_at va k
    have hb := valid_at vb k
    refine ⟨_, rfl, by omega, by omega, ?_⟩
    rw [wi64_id (n := (k : Int) + 1) (by omega) (by omega)]
    refine storeFill_ok tInts_one (zs := opL (fun x y => if y > x then y else x) a b) (i := k) (by rw [opL_length]; omega) ?_ ⟨⟨k + 1, by simp, by omega, rfl⟩, by simp only [iAt, List.getElem?_cons_zero]; omega⟩
    rw [opL_at]
  · have hka : k = a.length := by omega
    subst hka
    have hn : a.length = (opL (fun x y => if y > x then y else x) a b).length := (opL_length _ _ _).symm
    have hs : SlI .i64 (h.put nb (.cells (fillL I (I 0) (opL (fun x y => if y > x then y else x) a b) a.length).toArray ty_tInts_e)) (some ⟨nb, 0, none⟩) (opL (fun x y => if y > x then y else x) a b) := by
      rw [hn, fillL_all]; exact SlI.new h nb _ _ _
    have hv : FCall Try.prog f_RValid #[.slice (some ⟨nb, 0, none⟩) a.length a.length] (h.put nb (.cells (fillL I (I 0) (opL (fun x y => if y > x then y else x) a b) a.length).toArray ty_tInts_e)) fun r hp5 => ∃ t37 : Bool, r = .bool t37 ∧ Br (!t37) (K (.tuple #[.slice none 0 0, .bool false]) hp5) (K (.tuple #[.slice (some ⟨nb, 0, none⟩) a.length a.length, .bool true]) hp5) := by
      rw [hn] at hs ⊢
      refine rvalid_spec hs ⟨_, rfl, Br.not (Br.of (fun h3 => ?_) (fun h3 => ?_))⟩
      · exact hyes (by rw [h1, h3]; rfl) _ _ (hle _) hs
      · exact hno (by rw [h1, h3]; rfl) _ (hle _)
    exact hv

theorem rdiv_spec (sa : SlI .i64 h A a) (sb : SlI .i64 h B b) (hno : divB b a = false → K (.tuple #[.slice none 0 0, .bool false]) h) (hyes : divB b a = true → ∀ A' h', h.le h' → SlI .i64 h' A' (opL (fun x y => x - y) a b) → K (.tuple #[.slice A' (opL (fun x y => x - y) a b).length (opL (fun x y => x - y) a b).length, .bool true]) h') :
    FCall Try.prog f_RDiv #[.slice A a.length ac, .slice B b.length bc] h K := by
  refine RDiv_ok _ _ _ _ _ _ ?_
  unfold RDiv
  refine rdivides_spec sb sa ⟨_, rfl, Br.not (Br.of (fun h0 => ?_) (fun h0 => hno h0))⟩
  have h1 : pairB b a = true := by simp only [divB, Bool.and_eq_true] at h0; exact h0.1
  obtain ⟨hl, vb, va⟩ := pair_facts h1
  have hl6 := (valid_facts va).1
  refine make_ok tInts (by omega) (by omega) (by omega) (by omega) ?_
  intro nb hnb
  refine ⟨_, _, _, rfl, ?_⟩
  rw [Int.toNat_natCast]
  refine ⟨fun l h' => ∃ k : Nat, l = [I k] ∧ k ≤ a.length ∧ h' = h.put nb (.cells (fillL I (I 0) (opL (fun x y => x - y) a b) k).toArray ty_tInts_e), fun l _ => a.length - (iAt l 0).toNat, ⟨0, rfl, by omega, ?_⟩, ?_⟩
  · rw [fillL_zero, opL_length]; congr 2; exact repCells_one _ _
  rintro i hp ⟨k, hl', hk, rfl⟩
  obtain rfl : i = (k : Int) := by simpa using hl'
  have hle : ∀ o', h.le (h.put nb o') := fun o' => Heap.le_put o' hnb
  refine Br.dec (fun h2 => ?_) (fun h2 => ?_)
  · refine (sa.mono (hle _)).load rfl (by omega) (by omega) ?_
    refine (sb.mono (hle _)).load rfl (by omega) (by omega) ?_
    rw [Int.toNat_natCast]
    have ha := valid_at va k
    have hb := valid_at vb k
    refine ⟨_, rfl, by omega, by omega, ?_⟩
    rw [wi64_id (n := (k : Int) + 1) (by omega) (by omega)]
    refine storeFill_ok tInts_one (zs := opL (fun x y => x - y) a b) (i := k) (by rw [opL_length]; omega) ?_ ⟨⟨k + 1, by simp, by omega, rfl⟩, by simp only [iAt, List.getElem?_cons_zero]; omega⟩
    rw [opL_at]
    exact wi64_id (by omega) (by omega)
  · have hka : k = a.length := by omega
    subst hka
    have hn : a.length = (opL (fun x y => x - y) a b).length := (opL_length _ _ _).symm
    have hs : SlI .i64 (h.put nb (.cells (fillL I (I 0) (opL (fun x y => x - y) a b) a.length).toArray ty_tInts_e)) (some ⟨nb, 0, none⟩) (opL (fun x y => x - y) a b) := by
      rw [hn, fillL_all]; exact SlI.new h nb _ _ _
    have := hyes h0 _ _ (hle _) hs
    rw [opL_length] at this; exact this
theorem parL_length (a : List Int) : (parL a).length = a.length := by simp [parL]
theorem parL_at (a : List Int) {i : Nat} (hi : i < (parL a).length) : (parL a)[i] = Int.tmod (a.getD i 0) 2 := by simp [parL]
theorem mparity_spec (sa : SlI .i64 h A a) (hno : validB a = false → K (.slice none 0 0) h) (hyes : validB a = true → ∀ A' c' h', h.le h' → SlI .i64 h' A' (parL a) → K (.slice A' (parL a).length c') h') : FCall Try.prog f_MParity #[.slice A a.length ac] h K := by
  refine MParity_ok _ _ _ ?_
  unfold MParity
  refine mvalid_spec sa ⟨_, rfl, Br.not (Br.of (fun va => ?_) hno)⟩
  have hl6 := (valid_facts va).1
  refine make_ok tInts (by omega) (by omega) (by omega) (by omega) ?_
  intro nb hnb
  refine ⟨_, _, _, rfl, ?_⟩
  rw [Int.toNat_natCast]
  refine ⟨fun l h' => ∃ k : Nat, l = [I k] ∧ k ≤ a.length ∧ h' = h.put nb (.cells (fillL I (I 0) (parL a) k).toArray ty_tInts_e), fun l _ => a.length - (iAt l 0).toNat, ⟨0, rfl, by omega, ?_⟩, ?_⟩
  · rw [fillL_zero, parL_length]; congr 2; exact repCells_one _ _
  rintro i hp ⟨k, hl', hk, rfl⟩
  obtain rfl : i = (k : Int) := by simpa using hl'
  have hle : ∀ o', h.le (h.put nb o') := fun o' => Heap.le_put o' hnb
  refine Br.dec (fun h2 => ?_) (fun h2 => ?_)
  · refine (sa.mono (hle _)).load rfl (by omega) (by omega) ?_
    rw [Int.toNat_natCast]
    refine ⟨_, rfl, by omega, by omega, ?_⟩
    rw [wi64_id (n := (k : Int) + 1) (by omega) (by omega)]
    refine storeFill_ok tInts_one (zs := parL a) (i := k) (by rw [parL_length]; omega) ?_ ⟨⟨k + 1, by simp, by omega, rfl⟩, by simp only [iAt, List.getElem?_cons_zero]; omega⟩
    rw [parL_at]
  · have hka : k = a.length := by omega
    subst hka
    have hn : a.length = (parL a).length := (parL_length _).symm
    have hs : SlI .i64 (h.put nb (.cells (fillL I (I 0) (parL a) a.length).toArray ty_tInts_e)) (some ⟨nb, 0, none⟩) (parL a) := by
      rw [hn, fillL_all]; exact SlI.new h nb _ _ _
    have := hyes va (some ⟨nb, 0, none⟩) a.length _ (hle _) hs
    rw [parL_length] at this; exact this
theorem rparity_spec (sa : SlI .i64 h A a) (hno : validB a = false → K (.slice none 0 0) h) (hyes : validB a = true → ∀ A' c' h', h.le h' → SlI .i64 h' A' (parL a) → K (.slice A' (parL a).length c') h') : FCall Try.prog f_RParity #[.slice A a.length ac] h K := by
  refine RParity_ok _ _ _ ?_
  unfold RParity
  refine rvalid_spec sa ⟨_, rfl, Br.not (Br.of (fun va => ?_) hno)⟩
  have hl6 := (valid_facts va).1
  refine ⟨fun l h' => ∃ (k : Nat) (O : Option Addr) (c : Nat) (g : Heap), l = [.slice O k c, I k] ∧ k ≤ a.length ∧ h.le g ∧ Priv h' g ty_tInts_e 1 O k c (((parL a).take k).map I), fun l _ => a.length - (iAt l 1).toNat, ⟨0, none, 0, h, rfl, by omega, Heap.le_refl h, Priv.nil h _ _ _⟩, ?_⟩
  rintro O n c i hp ⟨k, O', c', g, hl', hk, hg, hp'⟩
  obtain ⟨⟨rfl, rfl, rfl⟩, rfl⟩ : (O = O' ∧ n = k ∧ c = c') ∧ i = (k : Int) := by simpa using hl'
  refine Br.dec (fun h2 => ?_) (fun h2 => ?_)
  · have hle := Heap.le_trans hg hp'.le
    refine (sa.mono hle).load rfl (by omega) (by omega) ?_
    rw [Int.toNat_natCast]
    refine lit1_ok tInts rfl ?_
    intro nb hnb
    refine ⟨_, _, _, rfl, ?_⟩
    refine append_ok tInts (hp'.put hnb _) (m := 1) (ys := [I (Int.tmod (a.getD n 0) 2)]) rfl (.inr ⟨_, rfl, ?_⟩) (by simp [oneC]) (by omega) (by omega) ?_
    · intro j v hj
      cases j with
      | zero => simp at hj; subst hj; rw [add_at, Heap.cell_put]; rfl
      | succ j => simp at hj
    · intro A' c2 h2' g2 hg2 hp2
      refine ⟨_, _, _, rfl, ?_⟩
      rw [wi64_id (by omega) (by omega)]
      refine ⟨⟨n + 1, A', c2, g2, by simp, by omega, Heap.le_trans hg (Heap.le_trans (Heap.le_put _ ?_) hg2), ?_⟩, by simp only [iAt, List.getElem?_cons_succ, List.getElem?_cons_zero]; omega⟩
      · cases hgn : g nb with
        | none => rfl
        | some o => have := hp'.le nb o hgn; rw [hnb] at this; cases this
      · have e : ((parL a).take (n + 1)).map I = ((parL a).take n).map I ++ [I (Int.tmod (a.getD n 0) 2)] := by
          rw [List.take_succ_eq_append_getElem (by rw [parL_length]; omega), List.map_append, parL_at]; rfl
        rw [e]; exact hp2
  · have hka : n = a.length := by omega
    have hs : SlI .i64 hp O (parL a) := by
      have := hp'.slV
      rw [List.take_of_length_le (by rw [parL_length]; omega)] at this
      exact this
    have := hyes va O c hp (Heap.le_trans hg hp'.le) hs
    rw [parL_length, ← hka] at this; exact this
theorem kints_spec (sa : SlI .i64 h A a) (sb : SlI .i64 h B b) (hla : a.length ≤ 1000000000) (hK : K (.bool (decide (a = b))) h) : FCall Try.prog f_KInts #[.slice A a.length ac, .slice B b.length bc] h K := by
  refine KInts_ok _ _ _ _ _ _ ?_
  unfold KInts
  refine Br.bne (fun h1 => ?_) (fun h1 => ?_)
  · have : a ≠ b := fun e => h1 (by rw [e])
    simpa [this] using hK
  · have hl : a.length = b.length := by omega
    refine ⟨fun l h' => ∃ k : Nat, l = [I k] ∧ k ≤ a.length ∧ a.take k = b.take k ∧ h' = h, fun l _ => a.length - (iAt l 0).toNat, ⟨0, rfl, by omega, by simp, rfl⟩, ?_⟩
    rintro i hp ⟨k, hl', hk, hall, rfl⟩
    obtain rfl : i = (k : Int) := by simpa using hl'
    refine Br.dec (fun h2 => ?_) (fun h2 => ?_)
    · refine sa.load rfl (by omega) (by omega) ?_
      refine sb.load rfl (by omega) (by omega) ?_
      rw [Int.toNat_natCast]
      refine Br.bne (fun h3 => ?_) (fun h3 => ?_)
      · have : a ≠ b := fun e => h3 (by rw [e])
        simpa [this] using hK
      · rw [wi64_id (by omega) (by omega)]
        refine ⟨⟨k + 1, by simp, by omega, ?_, rfl⟩, by simp only [iAt, List.getElem?_cons_zero]; omega⟩
        rw [List.take_succ_eq_append_getElem (by omega), List.take_succ_eq_append_getElem (by omega), hall]
        have hka : k < a.length := by omega
        have hkb : k < b.length := by omega
        simp [List.getD, hka, hkb] at h3
        rw [h3]
    · have : a = b := by
        rw [List.take_of_length_le (by omega), List.take_of_length_le (by omega)] at hall; exact hall
      simpa [this] using hK
end
end Go.Proofs.Ytlmdojkanhmioaa
