/-
  Contracts of the functions on numbers and on one or two exponent vectors that only read.
-/
import Derived.Test.YtlmdojkanhmioaaVc
import Derived.Test.YtlmdojkanhmioaaXLib2
namespace Go.Proofs.Ytlmdojkanhmioaa
open Go

/-! ### plain -/
def chooseGo (n k : Int) : Nat → Int
  | 0 => 1
  | i + 1 => Int.tdiv (chooseGo n k i * (n - k + (i + 1))) (i + 1)
def chooseF (n k : Int) : Int := if n < k then 0 else chooseGo n k k.toNat
theorem chooseGo_range : ∀ n : Fin 31, ∀ k : Fin 7, ∀ i : Fin 7, (k : Nat) ≤ n → (i : Nat) ≤ k → 0 ≤ chooseGo (n : Nat) (k : Nat) i ∧ chooseGo (n : Nat) (k : Nat) i ≤ 1000000 := by decide +kernel
theorem chooseGo_bound {n k : Int} {i : Nat} (hn0 : 0 ≤ n) (hn : n ≤ 30) (hk0 : 0 ≤ k) (hk : k ≤ 6) (hkn : k ≤ n) (hi : (i : Int) ≤ k) : 0 ≤ chooseGo n k i ∧ chooseGo n k i ≤ 1000000 := by
  have := chooseGo_range ⟨n.toNat, by omega⟩ ⟨k.toNat, by omega⟩ ⟨i, by omega⟩ (by simp; omega) (by simp; omega)
  simpa [Int.toNat_of_nonneg hn0, Int.toNat_of_nonneg hk0] using this
def degGo : List Int → Int → Int
  | [], d => d
  | e :: r, d => if e < 0 ∨ e > 24 - d then -1 else degGo r (d + e)
def degF (xs : List Int) : Int := if xs.length > 6 then -1 else degGo xs 0
def validB (xs : List Int) : Bool := decide (0 ≤ degF xs)
def pairB (a b : List Int) : Bool := a.length == b.length && validB a && validB b
def cmpF (x y : Int) : Int := if x < y then -1 else if x > y then 1 else 0
theorem degGo_snoc {xs : List Int} {k : Nat} {d : Int} (hk : k < xs.length) : degGo (xs.drop k) d = if xs.getD k 0 < 0 ∨ xs.getD k 0 > 24 - d then -1 else degGo (xs.drop (k + 1)) (d + xs.getD k 0) := by
  rw [List.drop_eq_getElem_cons hk, degGo]
  simp [List.getD, hk]

/-! ### numbers -/
theorem isNaN_spec {x : Int} {h : Heap} {K : Value → Heap → Prop} (hK : K (.bool false) h) : FCall Try.prog f_IsNaNInt #[I x] h K :=
  IsNaNInt_ok _ (by unfold IsNaNInt; simpa using hK)
theorem cmp_spec {x y : Int} {h : Heap} {K : Value → Heap → Prop} (hK : K (I (cmpF x y)) h) : FCall Try.prog f_CmpInt #[I x, I y] h K := by
  refine CmpInt_ok _ _ ?_
  unfold CmpInt
  refine isNaN_spec ⟨false, rfl, isNaN_spec ⟨false, rfl, ?_⟩⟩
  show Br _ _ _
  refine Br.dec (fun h1 => ?_) (fun h1 => Br.dec (fun h2 => ?_) (fun h2 => ?_)) <;> simpa [cmpF, h1, *] using hK
theorem choose_spec {n k : Int} {h : Heap} {K : Value → Heap → Prop} (hn0 : -1 ≤ n) (hn : n ≤ 30) (hk0 : 0 ≤ k) (hk : k ≤ 6) (hK : K (I (chooseF n k)) h) : FCall Try.prog f_MChoose #[I n, I k] h K := by
  refine MChoose_ok _ _ ?_
  unfold MChoose
  refine Br.dec (fun h1 => ?_) (fun h1 => ?_)
  · simpa [chooseF, h1] using hK
  · refine ⟨fun l h' => ∃ i : Nat, l = [I (chooseGo n k i), I (i + 1)] ∧ (i : Int) ≤ k ∧ h' = h, fun l _ => (k + 1 - iAt l 1).toNat, ⟨0, rfl, hk0, rfl⟩, ?_⟩
    rintro result i hp ⟨m, hl, hm, rfl⟩
    obtain ⟨rfl, rfl⟩ : result = chooseGo n k m ∧ i = (m : Int) + 1 := by simpa using hl
    have hb := chooseGo_bound (i := m) (by omega) hn hk0 hk (by omega) hm
    refine Br.dec (fun h2 => Br.dec (fun h3 => by omega) (fun _ => ?_)) (fun h2 => ?_)
    · have hb2 := chooseGo_bound (i := m + 1) (by omega) hn hk0 hk (by omega) (by omega)
      have hx : chooseGo n k m * (n - k + (m + 1)) ≤ 1000000 * 40 := by
        have h4 : 0 ≤ n - k + (m + 1) := by omega
        have h5 : n - k + ((m : Int) + 1) ≤ 40 := by omega
        exact Int.mul_le_mul hb.2 h5 h4 (by omega)
      have hx0 : 0 ≤ chooseGo n k m * (n - k + (m + 1)) := Int.mul_nonneg hb.1 (by omega)
      have e1 : wi64 (n - k) = n - k := wi64_id (by omega) (by omega)
      have e2 : wi64 (wi64 (n - k) + ((m : Int) + 1)) = n - k + (m + 1) := by rw [e1, wi64_id (by omega) (by omega)]
      have e3 : wi64 (chooseGo n k m * wi64 (wi64 (n - k) + ((m : Int) + 1))) = chooseGo n k m * (n - k + (m + 1)) := by rw [e2, wi64_id (by omega) (by omega)]
      have e4 : wi64 (Int.tdiv (wi64 (chooseGo n k m * wi64 (wi64 (n - k) + ((m : Int) + 1)))) ((m : Int) + 1)) = chooseGo n k (m + 1) := by
        rw [e3]; show wi64 (chooseGo n k (m + 1)) = _
        exact wi64_id (by omega) (by omega)
      have e5 : wi64 ((m : Int) + 1 + 1) = ((m + 1 : Nat) : Int) + 1 := by rw [wi64_id (by omega) (by omega)]; omega
      rw [e4, e5]
      exact ⟨⟨m + 1, rfl, by omega, rfl⟩, by simp only [iAt, List.getElem?_cons_succ, List.getElem?_cons_zero]; omega⟩
    · have : m = k.toNat := by omega
      subst this
      simpa [chooseF, h1] using hK

/-! ### one vector -/
theorem mdegree_spec {xs : List Int} {A : Option Addr} {c : Nat} {h : Heap} {K : Value → Heap → Prop} (s : SlI .i64 h A xs) (hK : K (I (degF xs)) h) : FCall Try.prog f_MDegree #[.slice A xs.length c] h K := by
  refine MDegree_ok _ _ _ ?_
  unfold MDegree
  refine Br.dec (fun h1 => ?_) (fun h1 => ?_)
  · have : xs.length > 6 := by omega
    simpa [degF, this] using hK
  · have h6 : ¬ xs.length > 6 := by omega
    refine ⟨fun l h' => ∃ (k : Nat) (d : Int), l = [I d, I k] ∧ k ≤ xs.length ∧ 0 ≤ d ∧ d ≤ 24 ∧ degF xs = degGo (xs.drop k) d ∧ h' = h, fun l _ => xs.length - (iAt l 1).toNat, ⟨0, 0, rfl, by omega, by omega, by omega, by simp [degF, h6], rfl⟩, ?_⟩
    rintro degree i hp ⟨k, d, hl, hk, hd0, hd1, hd, rfl⟩
    obtain ⟨rfl, rfl⟩ : degree = d ∧ i = (k : Int) := by simpa using hl
    refine Br.dec (fun h2 => ?_) (fun h2 => ?_)
    · refine s.load rfl (by omega) (by omega) ?_
      have hkl : k < xs.length := by omega
      rw [Int.toNat_natCast]
      have hsn := degGo_snoc (d := degree) hkl
      have hw : wi64 (24 - degree) = 24 - degree := wi64_id (by omega) (by omega)
      refine Br.dec (fun h3 => ?_) (fun h3 => ?_)
      · rw [hd, hsn, if_pos (.inl h3)] at hK; exact hK
      · rw [hw]
        refine Br.dec (fun h4 => ?_) (fun h4 => ?_)
        · rw [hd, hsn, if_pos (.inr h4)] at hK; exact hK
        · rw [wi64_id (n := degree + xs.getD k 0) (by omega) (by omega), wi64_id (n := (k : Int) + 1) (by omega) (by omega)]
          refine ⟨⟨k + 1, degree + xs.getD k 0, by simp, by omega, by omega, by omega, ?_, rfl⟩, by simp only [iAt, List.getElem?_cons_succ, List.getElem?_cons_zero]; omega⟩
          rw [hd, hsn, if_neg (by omega)]
    · have : k = xs.length := by omega
      subst this
      rw [hd] at hK; simpa [degGo] using hK
theorem rdegree_spec {xs : List Int} {A : Option Addr} {c : Nat} {h : Heap} {K : Value → Heap → Prop} (s : SlI .i64 h A xs) (hK : K (I (degF xs)) h) : FCall Try.prog f_RDegree #[.slice A xs.length c] h K := by
  refine RDegree_ok _ _ _ ?_
  unfold RDegree
  refine Br.dec (fun h1 => ?_) (fun h1 => ?_)
  · have : xs.length > 6 := by omega
    simpa [degF, this] using hK
  · have h6 : ¬ xs.length > 6 := by omega
    refine ⟨fun l h' => ∃ (k : Nat) (d : Int), l = [I d, I k] ∧ k ≤ xs.length ∧ 0 ≤ d ∧ d ≤ 24 ∧ degF xs = degGo (xs.drop k) d ∧ h' = h, fun l _ => xs.length - (iAt l 1).toNat, ⟨0, 0, rfl, by omega, by omega, by omega, by simp [degF, h6], rfl⟩, ?_⟩
    rintro degree i hp ⟨k, d, hl, hk, hd0, hd1, hd, rfl⟩
    obtain ⟨rfl, rfl⟩ : degree = d ∧ i = (k : Int) := by simpa using hl
    refine Br.dec (fun h2 => ?_) (fun h2 => ?_)
    · refine s.load rfl (by omega) (by omega) ?_
      have hkl : k < xs.length := by omega
      rw [Int.toNat_natCast]
      have hsn := degGo_snoc (d := degree) hkl
      have hw : wi64 (24 - degree) = 24 - degree := wi64_id (by omega) (by omega)
      refine Br.dec (fun h3 => ?_) (fun h3 => ?_)
      · rw [hd, hsn, if_pos (.inl h3)] at hK; exact hK
      · refine s.load rfl (by omega) (by omega) ?_
        rw [hw, Int.toNat_natCast]
        refine Br.dec (fun h4 => ?_) (fun h4 => ?_)
        · rw [hd, hsn, if_pos (.inr h4)] at hK; exact hK
        · refine s.load rfl (by omega) (by omega) ?_
          rw [Int.toNat_natCast, wi64_id (n := degree + xs.getD k 0) (by omega) (by omega), wi64_id (n := (k : Int) + 1) (by omega) (by omega)]
          refine ⟨⟨k + 1, degree + xs.getD k 0, by simp, by omega, by omega, by omega, ?_, rfl⟩, by simp only [iAt, List.getElem?_cons_succ, List.getElem?_cons_zero]; omega⟩
          rw [hd, hsn, if_neg (by omega)]
    · have : k = xs.length := by omega
      subst this
      rw [hd] at hK; simpa [degGo] using hK
theorem mvalid_spec {xs : List Int} {A : Option Addr} {c : Nat} {h : Heap} {K : Value → Heap → Prop} (s : SlI .i64 h A xs) (hK : K (.bool (validB xs)) h) : FCall Try.prog f_MValid #[.slice A xs.length c] h K := by
  refine MValid_ok _ _ _ ?_
  unfold MValid
  exact mdegree_spec s ⟨_, rfl, by simpa [validB] using hK⟩
theorem rvalid_spec {xs : List Int} {A : Option Addr} {c : Nat} {h : Heap} {K : Value → Heap → Prop} (s : SlI .i64 h A xs) (hK : K (.bool (validB xs)) h) : FCall Try.prog f_RValid #[.slice A xs.length c] h K := by
  refine RValid_ok _ _ _ ?_
  unfold RValid
  refine Br.dec (fun h1 => ?_) (fun h1 => ?_)
  · exact rdegree_spec s ⟨_, rfl, by simpa [validB] using hK⟩
  · have : xs.length > 6 := by omega
    simpa [validB, degF, this] using hK
end Go.Proofs.Ytlmdojkanhmioaa
