/-
  The law MonomialIndex.
-/
import Derived.Test.YtlmdojkanhmioaaMonoH
namespace Go.Proofs.Ytlmdojkanhmioaa
open Go Go.RowKit

/-- how many monomials in n variables have a degree below k -/
def belowN (n k : Nat) : Nat := ((List.range k).map (lenL n)).sum
theorem belowN_succ (n k : Nat) : belowN n (k + 1) = belowN n k + lenL n k := by
  unfold belowN; rw [List.range_succ, List.map_append, List.sum_append]; simp
theorem belowN_mono (n : Nat) {j k : Nat} (h : j ≤ k) : belowN n j ≤ belowN n k := sum_range_le (lenL n) h
theorem belowN_choose : ∀ n : Fin 7, ∀ k : Fin 26, chooseF (((n : Nat) : Int) + (k : Nat) - 1) ((n : Nat) : Int) = (belowN n k : Nat) := by decide +kernel
theorem choose_below {n k : Nat} (hn : n ≤ 6) (hk : k ≤ 25) : chooseF ((n : Int) + k - 1) (n : Int) = (belowN n k : Nat) := belowN_choose ⟨n, by omega⟩ ⟨k, by omega⟩
theorem flat_at {α : Type} (f : Nat → List α) {m p : Nat} (hp : p < (f m).length) : ∀ k, m < k → ((List.range k).flatMap f)[((List.range m).map fun j => (f j).length).sum + p]? = (f m)[p]?
  | 0, h => by omega
  | k + 1, h => by
    have hlen : ((List.range k).flatMap f).length = ((List.range k).map fun j => (f j).length).sum := by simp [List.length_flatMap]
    have e : (List.range (k + 1)).flatMap f = (List.range k).flatMap f ++ f k := by simp [List.range_succ]
    rw [e]
    by_cases hm : m = k
    · subst hm
      rw [List.getElem?_append_right (by omega), hlen]
      congr 1; omega
    · have hle := sum_range_le (fun j => (f j).length) (show m + 1 ≤ k by omega)
      rw [List.range_succ, List.map_append, List.sum_append] at hle
      simp only [List.map_cons, List.map_nil, List.sum_cons, List.sum_nil] at hle
      rw [List.getElem?_append_left (by omega)]
      exact flat_at f hp k (by omega)
theorem sum_take_nat {xs : List Int} (v : validB xs = true) (k : Nat) : ∃ d : Nat, (xs.take k).sum = d ∧ d ≤ 24 := ⟨(xs.take k).sum.toNat, by have := sum_take_le v k; omega, by have := sum_take_le v k; omega⟩
theorem idx_main {xs : List Int} (v : validB xs = true) : ∀ (i deg : Nat), i < xs.length → (xs.take (i + 1)).sum = deg → deg ≤ 24 → ∃ p : Nat, idxGo xs i deg = p ∧ p < lenL (i + 1) deg ∧ (monoL (i + 1) deg)[p]? = some (xs.take (i + 1))
  | 0, deg, hi, hs, hd => by
    refine ⟨0, rfl, ?_, ?_⟩
    · have : belowN 0 1 ≤ belowN 0 (deg + 1) := belowN_mono 0 (by omega)
      have e : belowN 0 1 = 1 := by decide
      show 0 < belowN 0 (deg + 1)
      omega
    · have e : xs.take 1 = [(deg : Int)] := by
        match xs, hi with
        | x :: r, _ => simp at hs; simp [hs]
      have e1 : monoL 1 deg = [[(deg : Int)]] := by
        simp only [monoL]
        rw [List.range_succ_eq_map]
        simp [List.flatMap_cons, List.flatMap_map]
      rw [e, e1]; rfl
  | i + 1, deg, hi, hs, hd => by
    have hx := valid_at v (i + 1)
    have h6 := (valid_facts v).1
    rw [sum_take_succ hi] at hs
    obtain ⟨d', hd', hd24⟩ := sum_take_nat v (i + 1)
    obtain ⟨p', ep, lp, pp⟩ := idx_main v i d' (by omega) hd' hd24
    have e1 : (deg : Int) - xs.getD (i + 1) 0 = d' := by omega
    refine ⟨belowN (i + 1) d' + p', ?_, ?_, ?_⟩
    · simp only [idxGo]
      rw [e1, ep, choose_below (by omega) (by omega)]; omega
    · have := belowN_succ (i + 1) d'
      have := belowN_mono (i + 1) (show d' + 1 ≤ deg + 1 by omega)
      show _ < belowN (i + 1) (deg + 1)
      omega
    · have hl : ∀ j, ((monoL (i + 1) j).map (· ++ [((deg : Int) - j)])).length = lenL (i + 1) j := fun j => by rw [List.length_map, monoL_len]
      have := flat_at (fun j => (monoL (i + 1) j).map (· ++ [((deg : Int) - j)])) (m := d') (p := p') (by rw [hl]; exact lp) (deg + 1) (by omega)
      simp only [hl] at this
      show ((List.range (deg + 1)).flatMap fun j => (monoL (i + 1) j).map (· ++ [((deg : Int) - j)]))[belowN (i + 1) d' + p']? = _
      unfold belowN
      rw [this, List.getElem?_map, pp]
      have e2 : xs.take (i + 1 + 1) = xs.take (i + 1) ++ [((deg : Int) - d')] := by
        rw [List.take_succ_eq_append_getElem hi]
        congr 2
        have : xs.getD (i + 1) 0 = xs[i + 1] := by simp [List.getD, hi]
        omega
      rw [e2]; rfl
theorem idx_all {xs : List Int} (v : validB xs = true) : ∃ d p : Nat, xs.sum = d ∧ d ≤ 24 ∧ idxF xs = belowN xs.length d + p ∧ p < lenL xs.length d ∧ (monoL xs.length d)[p]? = some xs ∧ (xs ≠ [] → idxGo xs (xs.length - 1) d = p) := by
  obtain ⟨h6, _, hdeg, h24⟩ := valid_facts v
  by_cases hn : xs.length = 0
  · have : xs = [] := List.eq_nil_of_length_eq_zero hn
    subst this
    exact ⟨0, 0, rfl, by omega, by decide +kernel, by decide, rfl, fun h => absurd rfl h⟩
  · obtain ⟨d, hd, hd24⟩ := sum_take_nat v xs.length
    rw [List.take_length] at hd
    obtain ⟨p, ep, lp, pp⟩ := idx_main v (xs.length - 1) d (by omega) (by rw [Nat.sub_add_cancel (by omega), List.take_length]; exact hd) hd24
    rw [Nat.sub_add_cancel (by omega)] at lp pp
    rw [List.take_length] at pp
    refine ⟨d, p, hd, hd24, ?_, lp, pp, fun _ => ep⟩
    unfold idxF
    rw [hdeg, hd, ep, choose_below h6 (by omega)]
theorem idxGo_lt {a b : List Int} (va : validB a = true) (vb : validB b = true) (hl : a.length = b.length) : ∀ (i deg : Nat), i < a.length → (a.take (i + 1)).sum = deg → (b.take (i + 1)).sum = deg → deg ≤ 24 → ordBack a b (i + 1) < 0 → idxGo a i deg < idxGo b i deg
  | 0, deg, hi, ha, hb, _, ho => by
    exfalso
    have e1 := sum_take_succ (xs := a) (k := 0) hi
    have e2 := sum_take_succ (xs := b) (k := 0) (by omega)
    simp only [List.take_zero, List.sum_nil, Nat.zero_add] at e1 e2 ha hb
    simp only [ordBack] at ho
    rw [if_neg (by omega)] at ho
    omega
  | i + 1, deg, hi, ha, hb, hd, ho => by
    have h6 := (valid_facts va).1
    have hxa := valid_at va (i + 1)
    have hxb := valid_at vb (i + 1)
    rw [sum_take_succ hi] at ha
    rw [sum_take_succ (by omega)] at hb
    obtain ⟨da, hda, hda24⟩ := sum_take_nat va (i + 1)
    obtain ⟨db, hdb, hdb24⟩ := sum_take_nat vb (i + 1)
    obtain ⟨pa, epa, lpa, _⟩ := idx_main va i da (by omega) hda hda24
    obtain ⟨pb, epb, lpb, _⟩ := idx_main vb i db (by omega) hdb hdb24
    have e1 : (deg : Int) - a.getD (i + 1) 0 = da := by omega
    have e2 : (deg : Int) - b.getD (i + 1) 0 = db := by omega
    rw [show ordBack a b (i + 1 + 1) = if a.getD (i + 1) 0 ≠ b.getD (i + 1) 0 then cmpF (b.getD (i + 1) 0) (a.getD (i + 1) 0) else ordBack a b (i + 1) from rfl] at ho
    simp only [idxGo]
    rw [e1, e2, choose_below (by omega) (by omega), choose_below (by omega) (by omega)]
    by_cases hne : a.getD (i + 1) 0 = b.getD (i + 1) 0
    · rw [if_neg (by omega)] at ho
      have hdd : da = db := by omega
      subst hdd
      have := idxGo_lt va vb hl i da (by omega) hda hdb hda24 ho
      omega
    · rw [if_pos hne] at ho
      unfold cmpF at ho
      have hlt : b.getD (i + 1) 0 < a.getD (i + 1) 0 := by
        by_cases h : b.getD (i + 1) 0 < a.getD (i + 1) 0
        · exact h
        · rw [if_neg h] at ho
          split at ho <;> omega
      have := belowN_succ (i + 1) da
      have := belowN_mono (i + 1) (show da + 1 ≤ db by omega)
      rw [epa, epb]; omega
theorem idx_lt {a b : List Int} (va : validB a = true) (vb : validB b = true) (hl : a.length = b.length) (ho : ordF a b < 0) : idxF a < idxF b := by
  obtain ⟨da, pa, sa, da24, ia, la, _, ga⟩ := idx_all va
  obtain ⟨db, pb, sb, db24, ib, lb, _, gb⟩ := idx_all vb
  unfold ordF at ho
  rw [← hl] at ib lb gb
  rw [ia, ib]
  by_cases hs : a.sum = b.sum
  · rw [if_neg (by omega)] at ho
    have hdd : da = db := by omega
    subst hdd
    have hn : a.length ≠ 0 := by
      intro e; rw [e] at ho; simp [ordBack] at ho
    have hane : a ≠ [] := by rintro rfl; exact hn rfl
    have hbne : b ≠ [] := by rintro rfl; exact hn hl
    have e1 : a.length - 1 + 1 = a.length := by omega
    have := idxGo_lt va vb hl (a.length - 1) da (by omega) (by rw [e1, List.take_length]; exact sa) (by rw [e1, hl, List.take_length]; exact sb) da24 (by rw [e1]; exact ho)
    rw [ga hane, gb hbne] at this
    omega
  · rw [if_pos hs] at ho
    have hlt : a.sum < b.sum := by
      unfold cmpF at ho
      by_cases h : a.sum < b.sum
      · exact h
      · rw [if_neg h] at ho
        split at ho <;> omega
    have := belowN_succ a.length da
    have := belowN_mono a.length (show da + 1 ≤ db by omega)
    omega
theorem idx_cmp {a b : List Int} (va : validB a = true) (vb : validB b = true) (hl : a.length = b.length) : decide (idxF a < idxF b) = decide (compF a b < 0) := by
  rw [comp_ord va vb hl]
  by_cases h : ordF a b < 0
  · rw [decide_eq_true h, decide_eq_true (idx_lt va vb hl h)]
  · rw [decide_eq_false h, decide_eq_false]
    by_cases h0 : ordF a b = 0
    · rw [(ordF_zero hl).1 h0]; omega
    · have := idx_lt vb va hl.symm (by rw [ordF_neg hl]; omega)
      omega

section
variable {h g : Heap} {A B C : Option Addr} {a b c : List Int} {ac bc cc : Nat}
theorem law_index (sa : SlI .i64 h A a) (sb : SlI .i64 h B b) : FCall Try.prog f_LMonomialIndex #[.slice A a.length ac, .slice B b.length bc] h (LawK h) := by
  refine LMonomialIndex_ok _ _ _ _ _ _ ?_
  unfold LMonomialIndex
  refine long2 ?_
  intro h1 hl1
  have sa := sa.mono hl1
  have sb := sb.mono hl1
  refine ⟨_, rfl, ?_⟩
  refine Br.of (fun _ => awakeK hl1) (fun _ => ?_)
  refine mvalid_spec sa ⟨_, rfl, Br.not (Br.of (fun va => ?_) (fun _ => awakeK hl1))⟩
  refine mvalid_spec sb ⟨_, rfl, Br.not (Br.of (fun vb => ?_) (fun _ => awakeK hl1))⟩
  refine Br.bne (fun _ => awakeK hl1) (fun hab => ?_)
  have hab : a.length = b.length := by omega
  refine mindex_spec sa ⟨_, _, rfl, mindex_spec sb ⟨_, _, rfl, ?_⟩⟩
  rw [va, vb, if_pos rfl, if_pos rfl]
  refine Br.not (Br.of (fun _ => ?_) (fun e => by cases e))
  refine Br.not (Br.of (fun _ => ?_) (fun e => by cases e))
  refine mcompare_spec sa sb ⟨_, rfl, ?_⟩
  rw [idx_cmp va vb hab]
  refine Br.not (Br.of (fun _ => ?_) (fun e => by simp at e))
  refine mdegree_spec sa ⟨_, rfl, mcount_spec ⟨_, _, rfl, ?_⟩⟩
  obtain ⟨h6, h0, hdeg, h24⟩ := valid_facts va
  obtain ⟨d, p, sd, d24, ia, lp, pp, _⟩ := idx_all va
  rw [hdeg, sd]
  have hr : inRange (a.length : Int) (d : Int) = true := decide_eq_true (by omega)
  have hc : cntF (a.length : Int) (d : Int) = (belowN a.length (d + 1) : Nat) := by
    rw [← chooseF_cnt hr, ← choose_below h6 (by omega)]
    congr 1; omega
  have hb := belowN_succ a.length d
  rw [hr, ia, hc]
  refine Br.not (Br.of (fun _ => ?_) (fun e => by cases e))
  refine Br.dec (fun e => absurd e (by omega)) (fun _ => ?_)
  refine Br.dec (fun _ => Br.of (fun _ => Br.dec (fun _ => awakeK hl1) (fun e => absurd (by omega) e)) (fun e => by cases e)) (fun h300 => ?_)
  refine mall_spec ?_
  have hA : allR (a.length : Int) (d : Int) = preM a.length (d + 1) := by
    unfold allR
    rw [if_pos hr, if_neg (by omega)]; simp
  have hE : allErr (a.length : Int) (d : Int) = 0 := by
    unfold allErr
    rw [if_pos hr, if_neg (by omega)]
  rw [hA, hE]
  intro A2 c2 h2 hl2 s2
  refine ⟨_, _, _, _, rfl, ?_⟩
  refine Br.beq (fun _ => ?_) (fun e => absurd rfl e)
  have hlen : (preM a.length (d + 1)).length = belowN a.length (d + 1) := preM_len _ _
  refine Br.dec (fun _ => ?_) (fun e => absurd (by omega) e)
  obtain ⟨vs, sv, rv⟩ := s2
  have hpos : belowN a.length d + p < (preM a.length (d + 1)).length := by omega
  have hat : (preM a.length (d + 1))[belowN a.length d + p]? = some a := by
    have := flat_at (monoL a.length) (m := d) (p := p) (by rw [monoL_len]; exact lp) (d + 1) (by omega)
    simp only [monoL_len] at this
    unfold preM
    rw [← pp]; exact this
  obtain ⟨v, hv, Bx, bcx, rfl, sB, _⟩ := rv.at hpos
  have hvl : belowN a.length d + p < vs.length := by rw [rv.length]; exact hpos
  obtain ⟨a1, ha1, hc1⟩ := sv.at hvl
  rw [List.getElem?_eq_getElem hvl] at hv
  have eg : (preM a.length (d + 1)).getD (belowN a.length d + p) [] = a := by
    rw [List.getD, hat]; rfl
  rw [eg] at sB hv
  refine ⟨a1, ha1, by omega, by omega, _, _, _, by rw [show ((belowN a.length d : Nat) + (p : Nat) : Int).toNat * 1 = belowN a.length d + p by omega, hc1]; exact hv, ?_⟩
  refine kints_spec sB (sa.mono hl2) (by omega) ⟨_, rfl, Br.of (fun _ => awakeK (Heap.le_trans hl1 hl2)) (fun e => by simp at e)⟩
end
end Go.Proofs.Ytlmdojkanhmioaa
