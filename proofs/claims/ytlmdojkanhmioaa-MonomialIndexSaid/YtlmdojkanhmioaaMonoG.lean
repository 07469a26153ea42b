/-
  The laws MonomialOrder and MonomialLcm.
-/
import Derived.Test.YtlmdojkanhmioaaMonoF
namespace Go.Proofs.Ytlmdojkanhmioaa
open Go Go.RowKit

/-! ### plain: the order -/
theorem cmpF_neg (x y : Int) : cmpF y x = -cmpF x y := by
  unfold cmpF
  repeat' split
  all_goals omega
theorem ordBack_neg (a b : List Int) : ∀ k, ordBack b a k = -ordBack a b k
  | 0 => rfl
  | k + 1 => by
    have ih := ordBack_neg a b k
    simp only [ordBack]
    by_cases h1 : a.getD k 0 = b.getD k 0
    · rw [if_neg (by omega), if_neg (by omega)]; exact ih
    · rw [if_pos (by omega), if_pos (by omega)]; exact cmpF_neg _ _
theorem ordBack_range (a b : List Int) : ∀ k, -1 ≤ ordBack a b k ∧ ordBack a b k ≤ 1
  | 0 => by simp [ordBack]
  | k + 1 => by
    have ih := ordBack_range a b k
    simp only [ordBack, cmpF]
    repeat' split
    all_goals omega
theorem ordBack_trans (a b c : List Int) : ∀ k, (ordBack a b k ≤ 0 → ordBack b c k ≤ 0 → ordBack a c k ≤ 0) ∧ (ordBack a b k < 0 → ordBack b c k ≤ 0 → ordBack a c k < 0) ∧ (ordBack a b k ≤ 0 → ordBack b c k < 0 → ordBack a c k < 0)
  | 0 => by simp [ordBack]
  | k + 1 => by
    obtain ⟨i1, i2, i3⟩ := ordBack_trans a b c k
    simp only [ordBack, cmpF]
    repeat' split
    all_goals first | omega | (refine ⟨?_, ?_, ?_⟩ <;> intros <;> first | omega | (apply i1 <;> omega) | (apply i2 <;> omega) | (apply i3 <;> omega))
theorem ordBack_zero {a b : List Int} : ∀ {k}, ordBack a b k = 0 → ∀ i, i < k → a.getD i 0 = b.getD i 0
  | 0, _, i, hi => by omega
  | k + 1, e, i, hi => by
    simp only [ordBack] at e
    split at e
    · rename_i hne
      exfalso
      unfold cmpF at e
      split at e
      · omega
      · split at e <;> omega
    · rename_i he
      by_cases hik : i = k
      · subst hik; omega
      · exact ordBack_zero e i (by omega)
theorem ordBack_self (a : List Int) : ∀ k, ordBack a a k = 0
  | 0 => rfl
  | k + 1 => by simp only [ordBack]; rw [if_neg (by omega)]; exact ordBack_self a k
theorem ordF_neg {a b : List Int} (hl : a.length = b.length) : ordF b a = -ordF a b := by
  unfold ordF
  by_cases h : a.sum = b.sum
  · rw [if_neg (by omega), if_neg (by omega), hl]; exact ordBack_neg a b _
  · rw [if_pos (by omega), if_pos (by omega)]; exact cmpF_neg _ _
theorem ordF_range (a b : List Int) : -1 ≤ ordF a b ∧ ordF a b ≤ 1 := by
  have := ordBack_range a b a.length
  unfold ordF cmpF
  repeat' split
  all_goals omega
theorem ordF_trans {a b c : List Int} (hl : a.length = b.length) : (ordF a b ≤ 0 → ordF b c ≤ 0 → ordF a c ≤ 0) ∧ (ordF a b < 0 → ordF b c ≤ 0 → ordF a c < 0) := by
  obtain ⟨i1, i2, i3⟩ := ordBack_trans a b c a.length
  unfold ordF cmpF
  rw [← hl]
  repeat' split
  all_goals first | omega | (refine ⟨?_, ?_⟩ <;> intros <;> first | omega | (apply i1 <;> omega) | (apply i2 <;> omega))
theorem ext_getD {a b : List Int} (hl : a.length = b.length) (h : ∀ i, i < a.length → a.getD i 0 = b.getD i 0) : a = b := by
  apply List.ext_getElem hl
  intro i h1 h2
  have := h i h1
  simpa [List.getD, h1, h2] using this
theorem ordF_zero {a b : List Int} (hl : a.length = b.length) : ordF a b = 0 ↔ a = b := by
  constructor
  · intro e
    unfold ordF at e
    split at e
    · exfalso
      unfold cmpF at e
      split at e
      · omega
      · split at e <;> omega
    · exact ext_getD hl (ordBack_zero e)
  · rintro rfl
    unfold ordF
    rw [if_neg (by omega)]; exact ordBack_self a _
theorem opL_getD (o : Int → Int → Int) {a b : List Int} {i : Nat} (hi : i < a.length) : (opL o a b).getD i 0 = o (a.getD i 0) (b.getD i 0) := by
  have : i < (opL o a b).length := by rw [opL_length]; exact hi
  rw [List.getD, List.getElem?_eq_getElem this, Option.getD_some, opL_at]
theorem sum_opL_add : ∀ (a b : List Int), a.length = b.length → (opL (fun x y => x + y) a b).sum = a.sum + b.sum
  | [], [], _ => rfl
  | x :: a, y :: b, h => by
    have ih := sum_opL_add a b (by simpa using h)
    have e : opL (fun x y => x + y) (x :: a) (y :: b) = (x + y) :: opL (fun x y => x + y) a b := by
      unfold opL
      rw [List.length_cons, List.range_succ_eq_map, List.map_cons, List.map_map]
      congr 1
    rw [e, List.sum_cons, List.sum_cons, List.sum_cons, ih]; omega
theorem ordBack_add {a b c : List Int} (hl : a.length = b.length) : ∀ k, k ≤ a.length → ordBack (opL (fun x y => x + y) a c) (opL (fun x y => x + y) b c) k = ordBack a b k
  | 0, _ => rfl
  | k + 1, hk => by
    have ih := ordBack_add (c := c) hl k (by omega)
    simp only [ordBack]
    rw [opL_getD _ (by omega), opL_getD _ (by omega), ih]
    by_cases h1 : a.getD k 0 = b.getD k 0
    · rw [if_neg (by omega), if_neg (by omega)]
    · rw [if_pos (by omega), if_pos (by omega)]
      unfold cmpF
      by_cases h2 : b.getD k 0 < a.getD k 0
      · rw [if_pos (by omega), if_pos h2]
      · rw [if_neg (by omega), if_neg h2, if_pos (by omega), if_pos (by omega)]
theorem ordF_add {a b c : List Int} (hl : a.length = b.length) (hc : a.length = c.length) : ordF (opL (fun x y => x + y) a c) (opL (fun x y => x + y) b c) = ordF a b := by
  unfold ordF
  rw [sum_opL_add a c hc, sum_opL_add b c (by omega), opL_length, ordBack_add hl _ (Nat.le_refl _)]
  by_cases h : a.sum = b.sum
  · rw [if_neg (by omega), if_neg (by omega)]
  · rw [if_pos (by omega), if_pos (by omega)]
    unfold cmpF
    by_cases h2 : a.sum < b.sum
    · rw [if_pos (by omega), if_pos h2]
    · rw [if_neg (by omega), if_neg h2, if_pos (by omega), if_pos (by omega)]
theorem pair_mk {a b : List Int} (va : validB a = true) (vb : validB b = true) (hl : a.length = b.length) : pairB a b = true := by simp [pairB, va, vb, hl]
theorem comp_ord {a b : List Int} (va : validB a = true) (vb : validB b = true) (hl : a.length = b.length) : compF a b = ordF a b := by
  unfold compF; rw [if_pos (pair_mk va vb hl)]
theorem comp_zero {a : List Int} (va : validB a = true) : compF (List.replicate a.length 0) a ≤ 0 := by
  obtain ⟨h1, h2, h3, h4⟩ := valid_facts va
  have vz : validB (List.replicate a.length 0) = true := valid_of (by simpa using h1) (fun x hx => by have := List.eq_of_mem_replicate hx; omega) (by simp)
  rw [comp_ord vz va (by simp)]
  unfold ordF
  have hs := sum_nonneg' h2
  have e0 : (List.replicate a.length (0 : Int)).sum = 0 := by simp
  split
  · unfold cmpF
    rw [e0] at *
    rw [if_pos (by omega)]; omega
  · rename_i e
    have ea : a = List.replicate a.length 0 := by
      apply List.eq_replicate_of_mem
      intro x hx
      have := h2 x hx
      have := le_sum h2 hx
      omega
    have : ordBack (List.replicate a.length 0) a (List.replicate a.length (0 : Int)).length = 0 := by
      rw [← ea]; exact ordBack_self a _
    omega

section
variable {h g : Heap} {A B C : Option Addr} {a b c : List Int} {ac bc cc : Nat}
theorem law_order (sa : SlI .i64 h A a) (sb : SlI .i64 h B b) (sc : SlI .i64 h C c) : FCall Try.prog f_LMonomialOrder #[.slice A a.length ac, .slice B b.length bc, .slice C c.length cc] h (LawK h) := by
  refine LMonomialOrder_ok _ _ _ _ _ _ _ _ _ ?_
  unfold LMonomialOrder
  refine long3 ?_
  intro h1 hl1
  have sa := sa.mono hl1
  have sb := sb.mono hl1
  have sc := sc.mono hl1
  refine ⟨_, rfl, ?_⟩
  refine Br.of (fun _ => awakeK hl1) (fun _ => ?_)
  refine mvalid_spec sa ⟨_, rfl, Br.not (Br.of (fun va => ?_) (fun _ => awakeK hl1))⟩
  refine mvalid_spec sb ⟨_, rfl, Br.not (Br.of (fun vb => ?_) (fun _ => awakeK hl1))⟩
  refine mvalid_spec sc ⟨_, rfl, Br.not (Br.of (fun vc => ?_) (fun _ => awakeK hl1))⟩
  refine Br.bne (fun _ => awakeK hl1) (fun hab => ?_)
  refine Br.bne (fun _ => awakeK hl1) (fun hac => ?_)
  have hab : a.length = b.length := by omega
  have hac : a.length = c.length := by omega
  have a6 := (valid_facts va).1
  refine mcompare_spec sa sb ⟨_, rfl, mcompare_spec sb sc ⟨_, rfl, mcompare_spec sa sc ⟨_, rfl, ?_⟩⟩⟩
  have ex := comp_ord va vb hab
  have ey := comp_ord vb vc (by omega)
  have ez := comp_ord va vc hac
  have er := comp_ord vb va hab.symm
  obtain ⟨t1, t2⟩ := ordF_trans (c := c) hab
  have hrg := ordF_range a b
  rw [ex, ey, ez]
  refine ⟨fun l hp => l = [] ∧ hp = h1, ?_, ?_⟩
  · refine mcompare_spec sb sa ⟨_, rfl, ?_⟩
    rw [er, ordF_neg hab, wi64_id (n := 0 - ordF a b) (by omega) (by omega)]
    refine Br.bne (fun e => absurd (by omega) e) (fun _ => ?_)
    refine kints_spec sa sb (by omega) ⟨_, rfl, Br.not (Br.of (fun _ => ?_) (fun e => ?_))⟩
    · refine Br.dec (fun _ => Br.dec (fun _ => Br.dec (fun e => absurd (t1 (by assumption) (by assumption)) (by omega)) (fun _ => ?_)) (fun _ => ?_)) (fun _ => ?_)
      all_goals exact Br.dec (fun _ => Br.dec (fun _ => Br.dec (fun e => absurd (t2 (by assumption) (by assumption)) (by omega)) (fun _ => ⟨rfl, rfl⟩)) (fun _ => ⟨rfl, rfl⟩)) (fun _ => ⟨rfl, rfl⟩)
    · exfalso
      have hz := ordF_zero hab
      have : (ordF a b == 0) = decide (a = b) := by
        apply Bool.eq_iff_iff.2
        rw [beq_iff_eq, decide_eq_true_iff]; exact hz
      rw [this] at e
      simp at e
  · rintro hp ⟨_, rfl⟩
    refine make_ok tInts (by omega) (Int.le_refl _) (by omega) (by omega) ?_
    intro nb hnb
    have hlp := Heap.le_put (.cells (repCells (I 0).cells ((a.length : Int)).toNat) ty_tInts_e) hnb
    have sa := sa.mono hlp
    have sb := sb.mono hlp
    have sc := sc.mono hlp
    have hl2 := Heap.le_trans hl1 hlp
    have sz : SlI .i64 (hp.put nb (.cells (repCells (I 0).cells ((a.length : Int)).toNat) ty_tInts_e)) (some ⟨nb, 0, none⟩) (List.replicate a.length 0) := by
      refine SlV.new hp nb _ _ _ _ (fun i v hv => ?_)
      rw [show (I 0).cells = #[I 0] from rfl, repCells_one, Int.toNat_natCast]
      rw [List.getElem?_toArray]
      rw [List.map_replicate] at hv
      exact hv
    refine ⟨_, _, _, rfl, ?_⟩
    have hcz := comp_zero va
    have el : ((a.length : Int)).toNat = (List.replicate a.length (0 : Int)).length := by simp
    rw [show FCall Try.prog f_MCompare #[.slice (some ⟨nb, 0, none⟩) ((a.length : Int)).toNat ((a.length : Int)).toNat, .slice A a.length ac] = FCall Try.prog f_MCompare #[.slice (some ⟨nb, 0, none⟩) (List.replicate a.length (0 : Int)).length ((a.length : Int)).toNat, .slice A a.length ac] by rw [← el]]
    refine mcompare_spec sz sa ⟨_, rfl, Br.dec (fun e => absurd e (by omega)) (fun _ => ?_)⟩
    refine mmul_opt sa sc ?_
    intro A2 c2 h2 hl2' s2
    refine ⟨_, _, _, _, rfl, ?_⟩
    refine mmul_opt (sb.mono hl2') (sc.mono hl2') ?_
    intro A3 c3 h3 hl3 s3
    refine ⟨_, _, _, _, rfl, ?_⟩
    have hl4 := Heap.le_trans hl2 (Heap.le_trans hl2' hl3)
    refine Br.not (Br.of (fun m1 => ?_) (fun _ => awakeK hl4))
    refine Br.not (Br.of (fun m2 => ?_) (fun _ => awakeK hl4))
    refine mcompare_spec (s2.mono hl3) s3 ⟨_, rfl, ?_⟩
    have e1 : mulL a c = opL (fun x y => x + y) a c := by unfold mulL optL; rw [if_pos m1]
    have e2 : mulL b c = opL (fun x y => x + y) b c := by unfold mulL optL; rw [if_pos m2]
    have v1 : validB (opL (fun x y => x + y) a c) = true := (Bool.and_eq_true_iff.1 m1).2
    have v2 : validB (opL (fun x y => x + y) b c) = true := (Bool.and_eq_true_iff.1 m2).2
    refine Br.beq (fun _ => awakeK hl4) (fun e => absurd ?_ e)
    rw [e1, e2, comp_ord v1 v2 (by rw [opL_length, opL_length]; exact hab), ordF_add hab hac]
end
end Go.Proofs.Ytlmdojkanhmioaa
