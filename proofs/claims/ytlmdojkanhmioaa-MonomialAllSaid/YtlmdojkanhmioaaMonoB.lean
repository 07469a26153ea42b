/-
  Contracts of the functions on exponent vectors: pairs, order, arithmetic, parity; equality of lists.
-/
import Derived.Test.YtlmdojkanhmioaaMonoA
namespace Go.Proofs.Ytlmdojkanhmioaa
open Go

/-! ### plain -/
theorem degGo_valid : ∀ {xs : List Int} {d : Int}, 0 ≤ degGo xs d → 0 ≤ d → d ≤ 24 → (∀ x ∈ xs, 0 ≤ x) ∧ degGo xs d = d + xs.sum ∧ d + xs.sum ≤ 24 := by
  intro xs
  induction xs with
  | nil => intro d h h0 h1; simp [degGo]; exact h1
  | cons x xs ih =>
    intro d h h0 h1
    rw [degGo] at h ⊢
    split at h
    · omega
    · rename_i hx
      rw [if_neg hx]
      obtain ⟨a, b, c⟩ := ih h (by omega) (by omega)
      refine ⟨fun y hy => ?_, by simp; omega, by simp; omega⟩
      rcases List.mem_cons.1 hy with rfl | hy
      · omega
      · exact a y hy
theorem valid_facts {xs : List Int} (h : validB xs = true) : xs.length ≤ 6 ∧ (∀ x ∈ xs, 0 ≤ x) ∧ degF xs = xs.sum ∧ xs.sum ≤ 24 := by
  have h := of_decide_eq_true h
  unfold degF at h ⊢
  split at h
  · omega
  · rename_i hl
    obtain ⟨a, b, c⟩ := degGo_valid h (by omega) (by omega)
    rw [if_neg hl]
    exact ⟨by omega, a, by omega, by omega⟩
theorem sum_nonneg' {l : List Int} (h : ∀ x ∈ l, 0 ≤ x) : 0 ≤ l.sum := by
  induction l with
  | nil => simp
  | cons x l ih => have := ih (fun y hy => h y (by simp [hy])); have := h x (by simp); simp; omega
theorem degGo_of {xs : List Int} : ∀ {d : Int}, (∀ x ∈ xs, 0 ≤ x) → 0 ≤ d → d + xs.sum ≤ 24 → degGo xs d = d + xs.sum := by
  induction xs with
  | nil => intro d _ _ _; simp [degGo]
  | cons x xs ih =>
    intro d h h0 h1
    have hs : 0 ≤ xs.sum := sum_nonneg' (fun y hy => h y (by simp [hy]))
    have hx := h x (by simp)
    simp only [List.sum_cons] at h1
    rw [degGo, if_neg (by omega), ih (fun y hy => h y (by simp [hy])) (by omega) (by omega)]
    simp; omega
theorem valid_of {xs : List Int} (hl : xs.length ≤ 6) (h : ∀ x ∈ xs, 0 ≤ x) (hs : xs.sum ≤ 24) : validB xs = true := by
  unfold validB degF
  rw [if_neg (by omega), degGo_of h (by omega) (by omega)]
  have := sum_nonneg' h
  simp; omega
theorem le_sum {l : List Int} (h : ∀ x ∈ l, 0 ≤ x) {x : Int} (hx : x ∈ l) : x ≤ l.sum := by
  induction l with
  | nil => cases hx
  | cons y l ih =>
    have hs := sum_nonneg' (l := l) (fun z hz => h z (by simp [hz]))
    have hy := h y (by simp)
    simp only [List.sum_cons]
    rcases List.mem_cons.1 hx with rfl | hx
    · omega
    · have := ih (fun z hz => h z (by simp [hz])) hx; omega
theorem valid_at {xs : List Int} (h : validB xs = true) (k : Nat) : 0 ≤ xs.getD k 0 ∧ xs.getD k 0 ≤ 24 := by
  obtain ⟨_, h1, _, h3⟩ := valid_facts h
  by_cases hk : k < xs.length
  · have hm : xs.getD k 0 ∈ xs := by simp [List.getD, hk]
    have := le_sum h1 hm
    exact ⟨h1 _ hm, by omega⟩
  · simp [List.getD, hk]
theorem sum_take_succ {xs : List Int} {k : Nat} (hk : k < xs.length) : (xs.take (k + 1)).sum = (xs.take k).sum + xs.getD k 0 := by
  rw [List.take_succ_eq_append_getElem hk, List.sum_append]; simp [List.getD, hk]
theorem sum_take_le {xs : List Int} (h : validB xs = true) (k : Nat) : 0 ≤ (xs.take k).sum ∧ (xs.take k).sum ≤ 24 := by
  obtain ⟨_, h1, _, h3⟩ := valid_facts h
  have ha : ∀ x ∈ xs.take k, 0 ≤ x := fun x hx => h1 x (List.mem_of_mem_take hx)
  have hb : ∀ x ∈ xs.drop k, 0 ≤ x := fun x hx => h1 x (List.mem_of_mem_drop hx)
  have e : xs.sum = (xs.take k).sum + (xs.drop k).sum := by rw [← List.sum_append, List.take_append_drop]
  have := sum_nonneg' ha; have := sum_nonneg' hb; omega
def ordBack (a b : List Int) : Nat → Int
  | 0 => 0
  | k + 1 => if a.getD k 0 ≠ b.getD k 0 then cmpF (b.getD k 0) (a.getD k 0) else ordBack a b k
def ordF (a b : List Int) : Int := if a.sum ≠ b.sum then cmpF a.sum b.sum else ordBack a b a.length
def compF (a b : List Int) : Int := if pairB a b then ordF a b else 0
theorem pair_facts {a b : List Int} (h : pairB a b = true) : a.length = b.length ∧ validB a = true ∧ validB b = true := by
  simp only [pairB, Bool.and_eq_true, beq_iff_eq] at h
  exact ⟨h.1.1, h.1.2, h.2⟩
def divB (a b : List Int) : Bool := pairB a b && (List.range a.length).all fun i => decide (a.getD i 0 ≤ b.getD i 0)
def opL (o : Int → Int → Int) (a b : List Int) : List Int := (List.range a.length).map fun i => o (a.getD i 0) (b.getD i 0)
theorem opL_length (o : Int → Int → Int) (a b : List Int) : (opL o a b).length = a.length := by simp [opL]
theorem opL_at (o : Int → Int → Int) (a b : List Int) {i : Nat} (hi : i < (opL o a b).length) : (opL o a b)[i] = o (a.getD i 0) (b.getD i 0) := by simp [opL]
def parL (a : List Int) : List Int := (List.range a.length).map fun i => Int.tmod (a.getD i 0) 2

section
variable {h : Heap} {K : Value → Heap → Prop} {a b : List Int} {A B : Option Addr} {ac bc : Nat}

theorem mvalidpair_spec (sa : SlI .i64 h A a) (sb : SlI .i64 h B b) (hK : K (.bool (pairB a b)) h) : FCall Try.prog f_MValidPair #[.slice A a.length ac, .slice B b.length bc] h K := by
  refine MValidPair_ok _ _ _ _ _ _ ?_
  unfold MValidPair
  refine Br.beq (fun h1 => ?_) (fun h1 => ?_)
  · have hl : a.length = b.length := by omega
    refine mvalid_spec sa ⟨_, rfl, ?_⟩
    refine Br.of (fun h2 => mvalid_spec sb ⟨_, rfl, ?_⟩) (fun h2 => ?_)
    · simpa [pairB, hl, h2] using hK
    · simpa [pairB, hl, h2] using hK
  · have hl : (a.length == b.length) = false := by simp; omega
    simpa [pairB, hl] using hK

theorem rpair_spec (sa : SlI .i64 h A a) (sb : SlI .i64 h B b) (hK : K (.bool (pairB a b)) h) : FCall Try.prog f_RPair #[.slice A a.length ac, .slice B b.length bc] h K := by
  refine RPair_ok _ _ _ _ _ _ ?_
  unfold RPair
  refine Br.beq (fun h1 => ?_) (fun h1 => ?_)
  · have hl : a.length = b.length := by omega
    refine rvalid_spec sa ⟨_, rfl, ?_⟩
    refine Br.of (fun h2 => rvalid_spec sb ⟨_, rfl, ?_⟩) (fun h2 => ?_)
    · simpa [pairB, hl, h2] using hK
    · simpa [pairB, hl, h2] using hK
  · have hl : (a.length == b.length) = false := by simp; omega
    simpa [pairB, hl] using hK

theorem morder_spec (hp : pairB a b = true) (sa : SlI .i64 h A a) (sb : SlI .i64 h B b) (hK : K (I (ordF a b)) h) : FCall Try.prog f_MOrder #[.slice A a.length ac, .slice B b.length bc] h K := by
  obtain ⟨hl, va, vb⟩ := pair_facts hp
  have hl6 := (valid_facts va).1
  refine MOrder_ok _ _ _ _ _ _ ?_
  unfold MOrder
  refine ⟨fun l h' => ∃ k : Nat, l = [I (a.take k).sum, I (b.take k).sum, I k] ∧ k ≤ a.length ∧ h' = h, fun l _ => a.length - (iAt l 2).toNat, ⟨0, by simp, by omega, rfl⟩, ?_⟩
  rintro dA dB i hp' ⟨k, hl', hk, rfl⟩
  obtain ⟨rfl, rfl, rfl⟩ : dA = (a.take k).sum ∧ dB = (b.take k).sum ∧ i = (k : Int) := by simpa using hl'
  have ba := sum_take_le va (k + 1)
  have bb := sum_take_le vb (k + 1)
  refine Br.dec (fun h2 => ?_) (fun h2 => ?_)
  · refine sa.load rfl (by omega) (by omega) ?_
    refine sb.load rfl (by omega) (by omega) ?_
    rw [Int.toNat_natCast, ← sum_take_succ (by omega), ← sum_take_succ (by omega), wi64_id (by omega) (by omega), wi64_id (by omega) (by omega), wi64_id (by omega) (by omega)]
    exact ⟨⟨k + 1, by simp, by omega, rfl⟩, by simp only [iAt, List.getElem?_cons_succ, List.getElem?_cons_zero]; omega⟩
  · have hka : k = a.length := by omega
    subst hka
    rw [List.take_length, show b.take a.length = b by rw [hl]; exact List.take_length]
    refine Br.bne (fun h3 => cmp_spec ⟨_, rfl, by simpa [ordF, h3] using hK⟩) (fun h3 => ?_)
    have hO : ordF a b = ordBack a b a.length := by simp [ordF, h3]
    rw [hO] at hK
    refine ⟨fun l h' => ∃ k : Nat, l = [I ((k : Int) - 1)] ∧ k ≤ a.length ∧ ordBack a b a.length = ordBack a b k ∧ h' = hp', fun l _ => (iAt l 0 + 1).toNat, ⟨a.length, by rw [wi64_id (by omega) (by omega)], by omega, rfl, rfl⟩, ?_⟩
    rintro i hp2 ⟨k, hl2, hk2, hob, rfl⟩
    obtain rfl : i = (k : Int) - 1 := by simpa using hl2
    refine Br.dec (fun h4 => ?_) (fun h4 => ?_)
    · obtain ⟨k, rfl⟩ : ∃ m, k = m + 1 := ⟨k - 1, by omega⟩
      have ek : ((k + 1 : Nat) : Int) - 1 = (k : Int) := by omega
      rw [ek]
      refine sa.load rfl (by omega) (by omega) ?_
      refine sb.load rfl (by omega) (by omega) ?_
      rw [Int.toNat_natCast]
      refine Br.bne (fun h5 => ?_) (fun h5 => ?_)
      · refine sb.load rfl (by omega) (by omega) ?_
        refine sa.load rfl (by omega) (by omega) ?_
        rw [Int.toNat_natCast]
        refine cmp_spec ⟨_, rfl, Heap.le_refl _, ?_⟩
        rw [hob, ordBack, if_pos h5] at hK; exact hK
      · rw [wi64_id (by omega) (by omega)]
        refine ⟨⟨k, rfl, by omega, ?_, rfl⟩, by simp only [iAt, List.getElem?_cons_zero]; omega⟩
        rw [hob, ordBack, if_neg (by simpa using h5)]
    · have : k = 0 := by omega
      subst this
      rw [hob] at hK; exact hK
theorem rorder_spec (hp : pairB a b = true) (sa : SlI .i64 h A a) (sb : SlI .i64 h B b) (hK : K (I (ordF a b)) h) : FCall Try.prog f_ROrder #[.slice A a.length ac, .slice B b.length bc] h K := by
  obtain ⟨hl, va, vb⟩ := pair_facts hp
  have hl6 := (valid_facts va).1
  refine ROrder_ok _ _ _ _ _ _ ?_
  unfold ROrder
  refine ⟨fun l h' => ∃ k : Nat, l = [I (a.take k).sum, I (b.take k).sum, I k] ∧ k ≤ a.length ∧ h' = h, fun l _ => a.length - (iAt l 2).toNat, ⟨0, by simp, by omega, rfl⟩, ?_⟩
  rintro dA dB i hp' ⟨k, hl', hk, rfl⟩
  obtain ⟨rfl, rfl, rfl⟩ : dA = (a.take k).sum ∧ dB = (b.take k).sum ∧ i = (k : Int) := by simpa using hl'
  have ba := sum_take_le va (k + 1)
  have bb := sum_take_le vb (k + 1)
  refine Br.dec (fun h2 => ?_) (fun h2 => ?_)
  · refine sa.load rfl (by omega) (by omega) ?_
    refine sb.load rfl (by omega) (by omega) ?_
    rw [Int.toNat_natCast, ← sum_take_succ (by omega), ← sum_take_succ (by omega), wi64_id (by omega) (by omega), wi64_id (by omega) (by omega), wi64_id (by omega) (by omega)]
    exact ⟨⟨k + 1, by simp, by omega, rfl⟩, by simp only [iAt, List.getElem?_cons_succ, List.getElem?_cons_zero]; omega⟩
  · have hka : k = a.length := by omega
    subst hka
    rw [List.take_length, show b.take a.length = b by rw [hl]; exact List.take_length]
    refine Br.bne (fun h3 => ?_) (fun h3 => ?_)
    · have hO : ordF a b = cmpF a.sum b.sum := by simp [ordF, h3]
      rw [hO] at hK
      refine Br.dec (fun h4 => ?_) (fun h4 => ?_)
      · simpa [cmpF, h4] using hK
      · have : a.sum > b.sum := by omega
        simpa [cmpF, h4, this] using hK
    have hO : ordF a b = ordBack a b a.length := by simp [ordF, h3]
    rw [hO] at hK
    refine ⟨fun l h' => ∃ k : Nat, l = [I ((k : Int) - 1)] ∧ k ≤ a.length ∧ ordBack a b a.length = ordBack a b k ∧ h' = hp', fun l _ => (iAt l 0 + 1).toNat, ⟨a.length, by rw [wi64_id (by omega) (by omega)], by omega, rfl, rfl⟩, ?_⟩
    rintro i hp2 ⟨k, hl2, hk2, hob, rfl⟩
    obtain rfl : i = (k : Int) - 1 := by simpa using hl2
    refine Br.dec (fun h4 => ?_) (fun h4 => ?_)
    · obtain ⟨k, rfl⟩ : ∃ m, k = m + 1 := ⟨k - 1, by omega⟩
      have ek : ((k + 1 : Nat) : Int) - 1 = (k : Int) := by omega
      rw [ek]
      refine sa.load rfl (by omega) (by omega) ?_
      refine sb.load rfl (by omega) (by omega) ?_
      rw [Int.toNat_natCast]
      refine Br.bne (fun h5 => ?_) (fun h5 => ?_)
      · refine sa.load rfl (by omega) (by omega) ?_
        refine sb.load rfl (by omega) (by omega) ?_
        rw [Int.toNat_natCast]
        rw [hob, ordBack, if_pos h5] at hK
        refine Br.dec (fun h6 => ?_) (fun h6 => ?_)
        · have : b.getD k 0 < a.getD k 0 := h6
          rw [cmpF, if_pos this] at hK; exact hK
        · rw [cmpF, if_neg (by omega), if_pos (by omega)] at hK; exact hK
      · rw [wi64_id (by omega) (by omega)]
        refine ⟨⟨k, rfl, by omega, ?_, rfl⟩, by simp only [iAt, List.getElem?_cons_zero]; omega⟩
        rw [hob, ordBack, if_neg (by simpa using h5)]
    · have : k = 0 := by omega
      subst this
      rw [hob] at hK; exact hK

theorem mcompare_spec (sa : SlI .i64 h A a) (sb : SlI .i64 h B b) (hK : K (I (compF a b)) h) : FCall Try.prog f_MCompare #[.slice A a.length ac, .slice B b.length bc] h K := by
  refine MCompare_ok _ _ _ _ _ _ ?_
  unfold MCompare
  refine mvalidpair_spec sa sb ⟨_, rfl, Br.not (Br.of (fun h1 => ?_) (fun h1 => ?_))⟩
  · exact morder_spec h1 sa sb ⟨_, rfl, by simpa [compF, h1] using hK⟩
  · simpa [compF, h1] using hK

theorem rcompare_spec (sa : SlI .i64 h A a) (sb : SlI .i64 h B b) (hK : K (I (compF a b)) h) : FCall Try.prog f_RCompare #[.slice A a.length ac, .slice B b.length bc] h K := by
  refine RCompare_ok _ _ _ _ _ _ ?_
  unfold RCompare
  refine rpair_spec sa sb ⟨_, rfl, Br.not (Br.of (fun h1 => ?_) (fun h1 => ?_))⟩
  · exact rorder_spec h1 sa sb ⟨_, rfl, by simpa [compF, h1] using hK⟩
  · simpa [compF, h1] using hK

theorem mdivides_spec (sa : SlI .i64 h A a) (sb : SlI .i64 h B b) (hK : K (.bool (divB a b)) h) : FCall Try.prog f_MDivides #[.slice A a.length ac, .slice B b.length bc] h K := by
  refine MDivides_ok _ _ _ _ _ _ ?_
  unfold MDivides
  refine mvalidpair_spec sa sb ⟨_, rfl, Br.not (Br.of (fun h1 => ?_) (fun h1 => ?_))⟩
  · obtain ⟨hl, va, vb⟩ := pair_facts h1
    have hl6 := (valid_facts va).1
    refine ⟨fun l h' => ∃ k : Nat, l = [I k] ∧ k ≤ a.length ∧ (∀ j, j < k → a.getD j 0 ≤ b.getD j 0) ∧ h' = h, fun l _ => a.length - (iAt l 0).toNat, ⟨0, rfl, by omega, by omega, rfl⟩, ?_⟩
    rintro i hp ⟨k, hl', hk, hall, rfl⟩
    obtain rfl : i = (k : Int) := by simpa using hl'
    refine Br.dec (fun h2 => ?_) (fun h2 => ?_)
    · refine sa.load rfl (by omega) (by omega) ?_
      refine sb.load rfl (by omega) (by omega) ?_
      rw [Int.toNat_natCast]
      refine Br.dec (fun h3 => ?_) (fun h3 => ?_)
      · have : divB a b = false := by
          unfold divB
          rw [h1, Bool.true_and, List.all_eq_false]
          exact ⟨k, by simp; omega, by rw [decide_eq_true_eq]; omega⟩
        rw [this] at hK; exact hK
      · rw [wi64_id (by omega) (by omega)]
        refine ⟨⟨k + 1, by simp, by omega, fun j hj => ?_, rfl⟩, by simp only [iAt, List.getElem?_cons_zero]; omega⟩
        by_cases e : j = k
        · subst e; omega
        · exact hall j (by omega)
    · have : divB a b = true := by
        unfold divB
        rw [h1, Bool.true_and, List.all_eq_true]
        intro j hj
        have := hall j (by simp at hj; omega)
        simpa using this
      rw [this] at hK; exact hK
  · simpa [divB, h1] using hK

theorem rdivides_spec (sa : SlI .i64 h A a) (sb : SlI .i64 h B b) (hK : K (.bool (divB a b)) h) : FCall Try.prog f_RDivides #[.slice A a.length ac, .slice B b.length bc] h K := by
  refine RDivides_ok _ _ _ _ _ _ ?_
  unfold RDivides
  refine rpair_spec sa sb ⟨_, rfl, Br.not (Br.of (fun h1 => ?_) (fun h1 => ?_))⟩
  · obtain ⟨hl, va, vb⟩ := pair_facts h1
    have hl6 := (valid_facts va).1
    refine ⟨fun l h' => ∃ k : Nat, l = [I k] ∧ k ≤ a.length ∧ (∀ j, j < k → a.getD j 0 ≤ b.getD j 0) ∧ h' = h, fun l _ => a.length - (iAt l 0).toNat, ⟨0, rfl, by omega, by omega, rfl⟩, ?_⟩
    rintro i hp ⟨k, hl', hk, hall, rfl⟩
    obtain rfl : i = (k : Int) := by simpa using hl'
    refine Br.dec (fun h2 => ?_) (fun h2 => ?_)
    · refine sa.load rfl (by omega) (by omega) ?_
      refine sb.load rfl (by omega) (by omega) ?_
      rw [Int.toNat_natCast]
      refine Br.dec (fun h3 => ?_) (fun h3 => ?_)
      · have : divB a b = false := by
          unfold divB
          rw [h1, Bool.true_and, List.all_eq_false]
          exact ⟨k, by simp; omega, by rw [decide_eq_true_eq]; omega⟩
        rw [this] at hK; exact hK
      · rw [wi64_id (by omega) (by omega)]
        refine ⟨⟨k + 1, by simp, by omega, fun j hj => ?_, rfl⟩, by simp only [iAt, List.getElem?_cons_zero]; omega⟩
        by_cases e : j = k
        · subst e; omega
        · exact hall j (by omega)
    · have : divB a b = true := by
        unfold divB
        rw [h1, Bool.true_and, List.all_eq_true]
        intro j hj
        have := hall j (by simp at hj; omega)
        simpa using this
      rw [this] at hK; exact hK
  · simpa [divB, h1] using hK

theorem mcombinemul_spec (sa : SlI .i64 h A a) (sb : SlI .i64 h B b) (hno : (pairB a b && validB (opL (fun x y => x + y) a b)) = false → ∀ h', h.le h' → K (.tuple #[.slice none 0 0, .bool false]) h') (hyes : (pairB a b && validB (opL (fun x y => x + y) a b)) = true → ∀ A' h', h.le h' → SlI .i64 h' A' (opL (fun x y => x + y) a b) → K (.tuple #[.slice A' (opL (fun x y => x + y) a b).length (opL (fun x y => x + y) a b).length, .bool true]) h') :
    FCall Try.prog f_MCombine #[.slice A a.length ac, .slice B b.length bc, .func (.func f_MMul1) #[] #[]] h K := by
  refine MCombineMul_ok _ _ _ _ _ _ ?_
  unfold MCombineMul
  refine mvalidpair_spec sa sb ⟨_, rfl, Br.not (Br.of (fun h1 => ?_) (fun h1 => hno (by simp [h1]) h (Heap.le_refl h)))⟩
  obtain ⟨hl, va, vb⟩ := pair_facts h1
  have hl6 := (valid_facts va).1
  refine make_ok tInts (by omega) (by omega) (by omega) (by omega) ?_
  intro nb hnb
  refine ⟨_, _, _, rfl, ?_⟩
  rw [Int.toNat_natCast]
  refine ⟨fun l h' => ∃ k : Nat, l = [I k] ∧ k ≤ a.length ∧ h' = h.put nb (.cells (fillL I (I 0) (opL (fun x y => x + y) a b) k).toArray ty_tInts_e), fun l _ => a.length - (iAt l 0).toNat, ⟨0, rfl, by omega, ?_⟩, ?_⟩
  · rw [fillL_zero, opL_length]; congr 2; exact repCells_one _ _
  rintro i hp ⟨k, hl', hk, rfl⟩
  obtain rfl : i = (k : Int) := by simpa using hl'
  have hle : ∀ o', h.le (h.put nb o') := fun o' => Heap.le_put o' hnb
  refine Br.dec (fun h2 => ?_) (fun h2 => ?_)
  · refine (sa.mono (hle _)).load rfl (by omega) (by omega) ?_
    refine (sb.mono (hle _)).load rfl (by omega) (by omega) ?_
    rw [Int.toNat_natCast]
    have ha := valid_at va k
    have hb := valid_at vb k
    refine MMul1_ok _ _ ?_
    unfold MMul1
    refine ⟨_, rfl, _, rfl, by omega, by omega, ?_⟩
    rw [wi64_id (n := (k : Int) + 1) (by omega) (by omega)]
    refine storeFill_ok tInts_one (zs := opL (fun x y => x + y) a b) (i := k) (by rw [opL_length]; omega) ?_ ⟨⟨k + 1, by simp, by omega, rfl⟩, by simp only [iAt, List.getElem?_cons_zero]; omega⟩
    rw [opL_at]
    exact wi64_id (by omega) (by omega)
  · have hka : k = a.length := by omega
    subst hka
    have hn : a.length = (opL (fun x y => x + y) a b).length := (opL_length _ _ _).symm
    have hs : SlI .i64 (h.put nb (.cells (fillL I (I 0) (opL (fun x y => x + y) a b) a.length).toArray ty_tInts_e)) (some ⟨nb, 0, none⟩) (opL (fun x y => x + y) a b) := by
      rw [hn, fillL_all]; exact SlI.new h nb _ _ _
    have hv : FCall Try.prog f_MValid #[.slice (some ⟨nb, 0, none⟩) a.length a.length] (h.put nb (.cells (fillL I (I 0) (opL (fun x y => x + y) a b) a.length).toArray ty_tInts_e)) fun r hp5 => ∃ t37 : Bool, r = .bool t37 ∧ Br (!t37) (K (.tuple #[.slice none 0 0, .bool false]) hp5) (K (.tuple #[.slice (some ⟨nb, 0, none⟩) a.length a.length, .bool true]) hp5) := by
      rw [hn] at hs ⊢
      refine mvalid_spec hs ⟨_, rfl, Br.not (Br.of (fun h3 => ?_) (fun h3 => ?_))⟩
      · exact hyes (by rw [h1, h3]; rfl) _ _ (hle _) hs
      · exact hno (by rw [h1, h3]; rfl) _ (hle _)
    exact hv
theorem mmul_spec (sa : SlI .i64 h A a) (sb : SlI .i64 h B b) (hno : (pairB a b && validB (opL (fun x y => x + y) a b)) = false → ∀ h', h.le h' → K (.tuple #[.slice none 0 0, .bool false]) h') (hyes : (pairB a b && validB (opL (fun x y => x + y) a b)) = true → ∀ A' h', h.le h' → SlI .i64 h' A' (opL (fun x y => x + y) a b) → K (.tuple #[.slice A' (opL (fun x y => x + y) a b).length (opL (fun x y => x + y) a b).length, .bool true]) h') :
    FCall Try.prog f_MMul #[.slice A a.length ac, .slice B b.length bc] h K := by
  refine MMul_ok _ _ _ _ _ _ ?_
  unfold MMul
  exact mcombinemul_spec sa sb (fun e h' hl => ⟨_, _, _, _, rfl, hno e h' hl⟩) (fun e A' h' hl s => ⟨_, _, _, _, rfl, hyes e A' h' hl s⟩)

theorem mcombinediv_spec (sa : SlI .i64 h A a) (sb : SlI .i64 h B b) (hno : (pairB a b && validB (opL (fun x y => x - y) a b)) = false → ∀ h', h.le h' → K (.tuple #[.slice none 0 0, .bool false]) h') (hyes : (pairB a b && validB (opL (fun x y => x - y) a b)) = true → ∀ A' h', h.le h' → SlI .i64 h' A' (opL (fun x y => x - y) a b) → K (.tuple #[.slice A' (opL (fun x y => x - y) a b).length (opL (fun x y => x - y) a b).length, .bool true]) h') :
    FCall Try.prog f_MCombine #[.slice A a.length ac, .slice B b.length bc, .func (.func f_MDiv1) #[] #[]] h K := by
  refine MCombineDiv_ok _ _ _ _ _ _ ?_
  unfold MCombineDiv
  refine mvalidpair_spec sa sb ⟨_, rfl, Br.not (Br.of (fun h1 => ?_) (fun h1 => hno (by simp [h1]) h (Heap.le_refl h)))⟩
  obtain ⟨hl, va, vb⟩ := pair_facts h1
  have hl6 := (valid_facts va).1
  refine make_ok tInts (by omega) (by omega) (by omega) (by omega) ?_
  intro nb hnb
  refine ⟨_, _, _, rfl, ?_⟩
  rw [Int.toNat_natCast]
  refine ⟨fun l h' => ∃ k : Nat, l = [I k] ∧ k ≤ a.length ∧ h' = h.put nb (.cells (fillL I (I 0) (opL (fun x y => x - y) a b) k).toArray ty_tInts_e), fun l _ => a.length - (iAt l 0).toNat, ⟨0, rfl, by omega, ?_⟩, ?_⟩
  · rw [fillL_zero, opL_length]; congr 2; exact repCells_one _ _
  rintro i hp ⟨k, hl', hk, rfl⟩
  obtain rfl : i = (k : Int) := by simpa using hl'
  have hle : ∀ o', h.le (h.put nb o') := fun o' => Heap.le_put o' hnb
  refine Br.dec (fun h2 => ?_) (fun h2 => ?_)
  · refine (sa.mono (hle _)).load rfl (by omega) (by omega) ?_
    refine (sb.mono (hle _)).load rfl (by omega) (by omega) ?_
    rw [Int.toNat_natCast]
    have ha := valid_at va k
    have hb := valid_at vb k
    refine MDiv1_ok _ _ ?_
    unfold MDiv1
    refine ⟨_, rfl, _, rfl, by omega, by omega, ?_⟩
    rw [wi64_id (n := (k : Int) + 1) (by omega) (by omega)]
    refine storeFill_ok tInts_one (zs := opL (fun x y => x - y) a b) (i := k) (by rw [opL_length]; omega) ?_ ⟨⟨k + 1, by simp, by omega, rfl⟩, by simp only [iAt, List.getElem?_cons_zero]; omega⟩
    rw [opL_at]
    exact wi64_id (by omega) (by omega)
  · have hka : k = a.length := by omega
    subst hka
    have hn : a.length = (opL (fun x y => x - y) a b).length := (opL_length _ _ _).symm
    have hs : SlI .i64 (h.put nb (.cells (fillL I (I 0) (opL (fun x y => x - y) a b) a.length).toArray ty_tInts_e)) (some ⟨nb, 0, none⟩) (opL (fun x y => x - y) a b) := by
      rw [hn, fillL_all]; exact SlI.new h nb _ _ _
    have hv : FCall Try.prog f_MValid #[.slice (some ⟨nb, 0, none⟩) a.length a.length] (h.put nb (.cells (fillL I (I 0) (opL (fun x y => x - y) a b) a.length).toArray ty_tInts_e)) fun r hp5 => ∃ t37 : Bool, r = .bool t37 ∧ Br (!t37) (K (.tuple #[.slice none 0 0, .bool false]) hp5) (K (.tuple #[.slice (some ⟨nb, 0, none⟩) a.length a.length, .bool true]) hp5) := by
      rw [hn] at hs ⊢
      refine mvalid_spec hs ⟨_, rfl, Br.not (Br.of (fun h3 => ?_) (fun h3 => ?_))⟩
      · exact hyes (by rw [h1, h3]; rfl) _ _ (hle _) hs
      · exact hno (by rw [h1, h3]; rfl) _ (hle _)
    exact hv
theorem mdiv_spec (sa : SlI .i64 h A a) (sb : SlI .i64 h B b) (hno : (pairB a b && validB (opL (fun x y => x - y) a b)) = false → ∀ h', h.le h' → K (.tuple #[.slice none 0 0, .bool false]) h') (hyes : (pairB a b && validB (opL (fun x y => x - y) a b)) = true → ∀ A' h', h.le h' → SlI .i64 h' A' (opL (fun x y => x - y) a b) → K (.tuple #[.slice A' (opL (fun x y => x - y) a b).length (opL (fun x y => x - y) a b).length, .bool true]) h') :
    FCall Try.prog f_MDiv #[.slice A a.length ac, .slice B b.length bc] h K := by
  refine MDiv_ok _ _ _ _ _ _ ?_
  unfold MDiv
  exact mcombinediv_spec sa sb (fun e h' hl => ⟨_, _, _, _, rfl, hno e h' hl⟩) (fun e A' h' hl s => ⟨_, _, _, _, rfl, hyes e A' h' hl s⟩)

theorem mcombinelcm_spec (sa : SlI .i64 h A a) (sb : SlI .i64 h B b) (hno : (pairB a b && validB (opL (fun x y => if y > x then y else x) a b)) = false → ∀ h', h.le h' → K (.tuple #[.slice none 0 0, .bool false]) h') (hyes : (pairB a b && validB (opL (fun x y => if y > x then y else x) a b)) = true → ∀ A' h', h.le h' → SlI .i64 h' A' (opL (fun x y => if y > x then y else x) a b) → K (.tuple #[.slice A' (opL (fun x y => if y > x then y else x) a b).length (opL (fun x y => if y > x then y else x) a b).length, .bool true]) h') :
    FCall Try.prog f_MCombine #[.slice A a.length ac, .slice B b.length bc, .func (.func f_MLcm1) #[] #[]] h K := by
  refine MCombineLcm_ok _ _ _ _ _ _ ?_
  unfold MCombineLcm
  refine mvalidpair_spec sa sb ⟨_, rfl, Br.not (Br.of (fun h1 => ?_) (fun h1 => hno (by simp [h1]) h (Heap.le_refl h)))⟩
  obtain ⟨hl, va, vb⟩ := pair_facts h1
  have hl6 := (valid_facts va).1
  refine make_ok tInts (by omega) (by omega) (by omega) (by omega) ?_
  intro nb hnb
  refine ⟨_, _, _, rfl, ?_⟩
  rw [Int.toNat_natCast]
  refine ⟨fun l h' => ∃ k : Nat, l = [I k] ∧ k ≤ a.length ∧ h' = h.put nb (.cells (fillL I (I 0) (opL (fun x y => if y > x then y else x) a b) k).toArray ty_tInts_e), fun l _ => a.length - (iAt l 0).toNat, ⟨0, rfl, by omega, ?_⟩, ?_⟩
  · rw [fillL_zero, opL_length]; congr 2; exact repCells_one _ _
  rintro i hp ⟨k, hl', hk, rfl⟩
  obtain rfl : i = (k : Int) := by simpa using hl'
  have hle : ∀ o', h.le (h.put nb o') := fun o' => Heap.le_put o' hnb
  refine Br.dec (fun h2 => ?_) (fun h2 => ?_)
  · refine (sa.mono (hle _)).load rfl (by omega) (by omega) ?_
    refine (sb.mono (hle _)).load rfl (by omega) (by omega) ?_
    rw [Int.toNat_natCast]
    have ha := valid_at va k
    have hb := valid_at vb k
    refine MLcm1_ok _ _ ?_
    unfold MLcm1
    refine ⟨_, rfl, _, rfl, by omega, by omega, ?_⟩
    rw [wi64_id (n := (k : Int) + 1) (by omega) (by omega)]
    refine storeFill_ok tInts_one (zs := opL (fun x y => if y > x then y else x) a b) (i := k) (by rw [opL_length]; omega) ?_ ⟨⟨k + 1, by simp, by omega, rfl⟩, by simp only [iAt, List.getElem?_cons_zero]; omega⟩
    rw [opL_at]
  · have hka : k = a.length := by omega
    subst hka
    have hn : a.length = (opL (fun x y => if y > x then y else x) a b).length := (opL_length _ _ _).symm
    have hs : SlI .i64 (h.put nb (.cells (fillL I (I 0) (opL (fun x y => if y > x then y else x) a b) a.length).toArray ty_tInts_e)) (some ⟨nb, 0, none⟩) (opL (fun x y => if y > x then y else x) a b) := by
      rw [hn, fillL_all]; exact SlI.new h nb _ _ _
    have hv : FCall Try.prog f_MValid #[.slice (some ⟨nb, 0, none⟩) a.length a.length] (h.put nb (.cells (fillL I (I 0) (opL (fun x y => if y > x then y else x) a b) a.length).toArray ty_tInts_e)) fun r hp5 => ∃ t37 : Bool, r = .bool t37 ∧ Br (!t37) (K (.tuple #[.slice none 0 0, .bool false]) hp5) (K (.tuple #[.slice (some ⟨nb, 0, none⟩) a.length a.length, .bool true]) hp5) := by
      rw [hn] at hs ⊢
      refine mvalid_spec hs ⟨_, rfl, Br.not (Br.of (fun h3 => ?_) (fun h3 => ?_))⟩
      · exact hyes (by rw [h1, h3]; rfl) _ _ (hle _) hs
      · exact hno (by rw [h1, h3]; rfl) _ (hle _)
    exact hv
theorem mlcm_spec (sa : SlI .i64 h A a) (sb : SlI .i64 h B b) (hno : (pairB a b && validB (opL (fun x y => if y > x then y else x) a b)) = false → ∀ h', h.le h' → K (.tuple #[.slice none 0 0, .bool false]) h') (hyes : (pairB a b && validB (opL (fun x y => if y > x then y else x) a b)) = true → ∀ A' h', h.le h' → SlI .i64 h' A' (opL (fun x y => if y > x then y else x) a b) → K (.tuple #[.slice A' (opL (fun x y => if y > x then y else x) a b).length (opL (fun x y => if y > x then y else x) a b).length, .bool true]) h') :
    FCall Try.prog f_MLcm #[.slice A a.length ac, .slice B b.length bc] h K := by
  refine MLcm_ok _ _ _ _ _ _ ?_
  unfold MLcm
  exact mcombinelcm_spec sa sb (fun e h' hl => ⟨_, _, _, _, rfl, hno e h' hl⟩) (fun e A' h' hl s => ⟨_, _, _, _, rfl, hyes e A' h' hl s⟩)
end
end Go.Proofs.Ytlmdojkanhmioaa
