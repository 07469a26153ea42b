/-
  The law MonomialLcm.
-/
import Derived.Test.YtlmdojkanhmioaaMonoG
namespace Go.Proofs.Ytlmdojkanhmioaa
open Go Go.RowKit

theorem sum_map_le {l : List Nat} {f g : Nat → Int} (h : ∀ x ∈ l, f x ≤ g x) : (l.map f).sum ≤ (l.map g).sum := by
  induction l with
  | nil => simp
  | cons x l ih =>
    simp only [List.map_cons, List.sum_cons]
    have := h x (by simp)
    have := ih fun y hy => h y (by simp [hy])
    omega
theorem div_mk {a b : List Int} (va : validB a = true) (vb : validB b = true) (hl : a.length = b.length) (h : ∀ i, i < a.length → a.getD i 0 ≤ b.getD i 0) : divB a b = true := by
  unfold divB
  rw [pair_mk va vb hl, Bool.true_and, List.all_eq_true]
  intro i hi
  exact decide_eq_true (h i (by simpa using hi))
theorem div_facts {a b : List Int} (h : divB a b = true) : validB a = true ∧ validB b = true ∧ a.length = b.length ∧ ∀ i, i < a.length → a.getD i 0 ≤ b.getD i 0 := by
  unfold divB at h
  obtain ⟨h1, h2⟩ := Bool.and_eq_true_iff.1 h
  obtain ⟨hl, va, vb⟩ := pair_facts h1
  rw [List.all_eq_true] at h2
  exact ⟨va, vb, hl, fun i hi => of_decide_eq_true (h2 i (by simpa using hi))⟩
theorem mul_facts {a b : List Int} (h : mulC a b = true) : mulL a b = opL (fun x y => x + y) a b ∧ validB (opL (fun x y => x + y) a b) = true ∧ a.length = b.length ∧ validB a = true ∧ validB b = true := by
  obtain ⟨h1, h2⟩ := Bool.and_eq_true_iff.1 h
  obtain ⟨hl, va, vb⟩ := pair_facts h1
  exact ⟨by unfold mulL optL; rw [if_pos h], h2, hl, va, vb⟩
theorem mul_div {a b : List Int} (h : mulC a b = true) : divB b (mulL a b) = true ∧ divL (mulL a b) b = a := by
  obtain ⟨e, vm, hl, va, vb⟩ := mul_facts h
  have hd : divB b (mulL a b) = true := by
    rw [e]
    refine div_mk vb vm (by rw [opL_length]; omega) (fun i hi => ?_)
    rw [opL_getD _ (by omega)]
    have := valid_at va i
    omega
  refine ⟨hd, ?_⟩
  unfold divL optL
  rw [if_pos hd, e]
  apply ext_getD
  · rw [opL_length, opL_length]
  · intro i hi
    rw [opL_length, opL_length] at hi
    rw [opL_getD _ (by rw [opL_length]; exact hi), opL_getD _ hi]
    omega
theorem lcm_of_mul {a b : List Int} (h : mulC a b = true) : lcmC a b = true := by
  obtain ⟨e, vm, hl, va, vb⟩ := mul_facts h
  unfold lcmC
  rw [pair_mk va vb hl, Bool.true_and]
  obtain ⟨m1, _, _, m4⟩ := valid_facts vm
  rw [opL_length] at m1
  refine valid_of (by rw [opL_length]; exact m1) (fun x hx => ?_) ?_
  · obtain ⟨i, hi, rfl⟩ := List.mem_map.1 hx
    have := valid_at va i
    have := valid_at vb i
    show 0 ≤ if b.getD i 0 > a.getD i 0 then b.getD i 0 else a.getD i 0
    split <;> omega
  · refine Int.le_trans ?_ m4
    unfold opL
    apply sum_map_le
    intro i _
    have := valid_at va i
    have := valid_at vb i
    show (if b.getD i 0 > a.getD i 0 then b.getD i 0 else a.getD i 0) ≤ a.getD i 0 + b.getD i 0
    split <;> omega
theorem lcm_facts {a b : List Int} (h : lcmC a b = true) : divB a (lcmL a b) = true ∧ divB b (lcmL a b) = true ∧ ∀ c, divB a c = true → divB b c = true → divB (lcmL a b) c = true := by
  obtain ⟨h1, vm⟩ := Bool.and_eq_true_iff.1 h
  obtain ⟨hl, va, vb⟩ := pair_facts h1
  have e : lcmL a b = opL (fun x y => if y > x then y else x) a b := by unfold lcmL optL; rw [if_pos h]
  rw [e]
  refine ⟨div_mk va vm (by rw [opL_length]) (fun i hi => ?_), div_mk vb vm (by rw [opL_length]; omega) (fun i hi => ?_), fun c hac hbc => ?_⟩
  · rw [opL_getD _ hi]
    show _ ≤ if b.getD i 0 > a.getD i 0 then b.getD i 0 else a.getD i 0
    split <;> omega
  · rw [opL_getD _ (by omega)]
    show _ ≤ if b.getD i 0 > a.getD i 0 then b.getD i 0 else a.getD i 0
    split <;> omega
  · obtain ⟨_, vc, lc, dc⟩ := div_facts hac
    obtain ⟨_, _, _, dc2⟩ := div_facts hbc
    refine div_mk vm vc (by rw [opL_length]; exact lc) (fun i hi => ?_)
    rw [opL_length] at hi
    rw [opL_getD _ hi]
    have := dc i hi
    have := dc2 i (by omega)
    show (if b.getD i 0 > a.getD i 0 then b.getD i 0 else a.getD i 0) ≤ _
    split <;> omega

section
variable {h g : Heap} {A B C : Option Addr} {a b c : List Int} {ac bc cc : Nat}
theorem lcm_tail {hp8 : Heap} (hl : h.le hp8) (sa : SlI .i64 hp8 A a) (sb : SlI .i64 hp8 B b) (sc : SlI .i64 hp8 C c) :
    FCall Try.prog f_MLcm #[.slice A a.length ac, .slice B b.length bc] hp8 (fun r20 hp22 => ∃ (t60a1A : Option Addr) (t60a1n : Nat) (t60a1c : Nat) (t60b1 : Bool), r20 = .tuple #[.slice t60a1A t60a1n t60a1c, .bool t60b1] ∧ Br (!t60b1) (Br (!(mulC a b)) (FCall Try.prog f_LAwake #[] hp22 (fun r21 hp23 => ∃ (t681 : Bool), r21 = .bool t681 ∧ LawK h (.bool t681) hp23))
  (LawK h (.bool false) hp22))
  (FCall Try.prog f_MDivides #[.slice A a.length ac, .slice t60a1A t60a1n t60a1c] hp22 (fun r22 hp24 => ∃ (t721 : Bool), r22 = .bool t721 ∧ Br (!t721) (LawK h (.bool false) hp24)
  (FCall Try.prog f_MDivides #[.slice B b.length bc, .slice t60a1A t60a1n t60a1c] hp24 (fun r23 hp25 => ∃ (t771 : Bool), r23 = .bool t771 ∧ Br (!t771) (LawK h (.bool false) hp25)
  (FCall Try.prog f_MDivides #[.slice A a.length ac, .slice C c.length cc] hp25 (fun r24 hp26 => ∃ (t821 : Bool), r24 = .bool t821 ∧ Br (!t821) (FCall Try.prog f_LAwake #[] hp26 (fun r25 hp27 => ∃ (t963 : Bool), r25 = .bool t963 ∧ LawK h (.bool t963) hp27))
  (FCall Try.prog f_MDivides #[.slice B b.length bc, .slice C c.length cc] hp26 (fun r26 hp28 => ∃ (t871 : Bool), r26 = .bool t871 ∧ Br (!t871) (FCall Try.prog f_LAwake #[] hp28 (fun r27 hp29 => ∃ (t964 : Bool), r27 = .bool t964 ∧ LawK h (.bool t964) hp29))
  (FCall Try.prog f_MDivides #[.slice t60a1A t60a1n t60a1c, .slice C c.length cc] hp28 (fun r28 hp30 => ∃ (t931 : Bool), r28 = .bool t931 ∧ Br t931 (FCall Try.prog f_LAwake #[] hp30 (fun r29 hp31 => ∃ (t965 : Bool), r29 = .bool t965 ∧ LawK h (.bool t965) hp31))
  (LawK h (.bool false) hp30))))))))))))  := by
  refine mlcm_opt sa sb ?_
  intro A2 c2 h2 hl2 s2
  refine ⟨_, _, _, _, rfl, ?_⟩
  have sa := sa.mono hl2
  have sb := sb.mono hl2
  have sc := sc.mono hl2
  have hl := Heap.le_trans hl hl2
  refine Br.not (Br.of (fun m => ?_) (fun m => Br.not (Br.of (fun m2 => absurd (lcm_of_mul m2) (by rw [m]; decide)) (fun _ => awakeK hl))))
  obtain ⟨f1, f2, f3⟩ := lcm_facts m
  refine mdivides_spec sa s2 ⟨_, rfl, Br.not (Br.of (fun _ => ?_) (fun e => absurd f1 (by rw [e]; decide)))⟩
  refine mdivides_spec sb s2 ⟨_, rfl, Br.not (Br.of (fun _ => ?_) (fun e => absurd f2 (by rw [e]; decide)))⟩
  refine mdivides_spec sa sc ⟨_, rfl, Br.not (Br.of (fun d1 => ?_) (fun _ => awakeK hl))⟩
  refine mdivides_spec sb sc ⟨_, rfl, Br.not (Br.of (fun d2 => ?_) (fun _ => awakeK hl))⟩
  refine mdivides_spec s2 sc ⟨_, rfl, Br.of (fun _ => awakeK hl) (fun e => absurd (f3 c d1 d2) (by rw [e]; decide))⟩
theorem law_lcm (sa : SlI .i64 h A a) (sb : SlI .i64 h B b) (sc : SlI .i64 h C c) : FCall Try.prog f_LMonomialLcm #[.slice A a.length ac, .slice B b.length bc, .slice C c.length cc] h (LawK h) := by
  refine LMonomialLcm_ok _ _ _ _ _ _ _ _ _ ?_
  unfold LMonomialLcm
  refine long3 ?_
  intro h1 hl1
  have sa := sa.mono hl1
  have sb := sb.mono hl1
  have sc := sc.mono hl1
  refine ⟨_, rfl, ?_⟩
  refine Br.of (fun _ => awakeK hl1) (fun _ => ?_)
  refine mvalid_spec sa ⟨_, rfl, Br.not (Br.of (fun va => ?_) (fun _ => awakeK hl1))⟩
  refine mvalid_spec sb ⟨_, rfl, Br.not (Br.of (fun vb => ?_) (fun _ => awakeK hl1))⟩
  refine Br.bne (fun _ => awakeK hl1) (fun hab => ?_)
  refine mmul_opt sa sb ?_
  intro A2 c2 h2 hl2 s2
  refine ⟨_, _, _, _, rfl, ?_⟩
  have sa := sa.mono hl2
  have sb := sb.mono hl2
  have sc := sc.mono hl2
  have hl := Heap.le_trans hl1 hl2
  refine Br.of (fun m => ?_) (fun _ => lcm_tail hl sa sb sc)
  obtain ⟨d1, d2⟩ := mul_div m
  refine mdiv_opt s2 sb ?_
  intro A3 c3 h3 hl3 s3
  refine ⟨_, _, _, _, rfl, ?_⟩
  have sa := sa.mono hl3
  have sb := sb.mono hl3
  have sc := sc.mono hl3
  have hl := Heap.le_trans hl hl3
  refine Br.not (Br.of (fun _ => ?_) (fun e => absurd d1 (by rw [e]; decide)))
  refine kints_spec s3 sa (Nat.le_trans divL_len (by decide)) ⟨_, rfl, Br.not (Br.of (fun _ => lcm_tail hl sa sb sc) (fun e => absurd (decide_eq_true d2) (by rw [e]; decide)))⟩
end
end Go.Proofs.Ytlmdojkanhmioaa
