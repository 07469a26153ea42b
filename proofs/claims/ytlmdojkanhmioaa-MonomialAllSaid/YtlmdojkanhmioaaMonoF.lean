/-
  The laws MonomialCount, MonomialValid, MonomialArithmetic; and the way from a law to what the frame of a statement asks.
-/
import Derived.Test.YtlmdojkanhmioaaMonoE
import Derived.Below
namespace Go.Proofs.Ytlmdojkanhmioaa
open Go Go.RowKit

def memOf (W : World) : Heap := fun b => W.heap[b]?
def LawK (h : Heap) (r : Value) (h' : Heap) : Prop := r = .bool true ∧ h.le h'
theorem frame_of {P : Program} {f : FuncId} {args : Array Value} {W : World} (x : FCall P f args (memOf W) (LawK (memOf W))) : Calls P f args W fun e w' => e = .returned (.bool true) ∧ Below W.heap.size W w' := by
  refine (x W (fun b o e => e)).mono ?_
  rintro e W' ⟨r, h', he, ⟨hr, hle⟩, fr⟩
  subst hr
  refine ⟨he, fr.os, fr.tape, fr.output, fr.size, fun k hk => ?_⟩
  have e0 : memOf W k = some W.heap[k] := Array.getElem?_eq_getElem hk
  have := fr.sim k _ (hle k _ e0)
  rw [this]; exact e0.symm
theorem memOf_cell {W : World} {a : Addr} {v : Value} (e : W.cell? a = some v) : (memOf W).cell? a = some v := by
  unfold World.cell? at e
  unfold Heap.cell? memOf
  exact e
/-- what a frame tells of a slice of numbers that came in -/
theorem row_of {W : World} {a : Option Addr} {len cap : Nat} {zs : List Int} (w : (a = none ∧ len = 0 ∧ cap = 0 ∧ zs = []) ∨
    ∃ x, a = some x ∧ len ≤ cap ∧ cap ≤ maxLen ∧ zs.length = cap ∧ (∀ i, i < zs.length → W.cell? (x.add i) = some (.int .i64 (zs.getD i 0))) ∧ ∀ n ∈ zs, (Lit.int .i64 n).wf = true) : ∃ xs : List Int, len = xs.length ∧ SlI .i64 (memOf W) a xs := by
  rcases w with ⟨rfl, rfl, rfl, rfl⟩ | ⟨x, rfl, h1, h2, h3, h4, _⟩
  · exact ⟨[], rfl, SlI.nil⟩
  · refine ⟨zs.take len, by simp; omega, .inr ⟨x, rfl, fun i v hv => ?_⟩⟩
    rw [List.getElem?_map] at hv
    cases hz : (zs.take len)[i]? with
    | none => rw [hz] at hv; cases hv
    | some n =>
      rw [hz] at hv
      cases hv
      rw [List.getElem?_take] at hz
      split at hz
      · have hi : i < zs.length := by
          by_cases hi : i < zs.length
          · exact hi
          · rw [List.getElem?_eq_none (by omega)] at hz; cases hz
        have := memOf_cell (h4 i hi)
        rw [this]
        simp only [List.getD, hz, Option.getD_some]
      · cases hz

section
variable {h g : Heap} {A B C : Option Addr} {a b c : List Int} {ac bc cc : Nat}
theorem law_count {n d : Int} : FCall Try.prog f_LMonomialCount #[I n, I d] h (LawK h) := by
  refine LMonomialCount_ok _ _ ?_
  unfold LMonomialCount
  refine mcount_spec ⟨_, _, rfl, rcount_spec ⟨_, _, rfl, ?_⟩⟩
  refine Br.beq (fun _ => ?_) (fun e => absurd rfl e)
  refine Br.of (fun _ => ?_) (fun e => by simp at e)
  exact awake_spec fun h' hl => ⟨_, rfl, rfl, hl⟩
theorem awakeK {h0 : Heap} (hl : h.le h0) : FCall Try.prog f_LAwake #[] h0 (fun r hp => ∃ (t : Bool), r = .bool t ∧ LawK h (.bool t) hp) :=
  awake_spec fun h' hl' => ⟨_, rfl, rfl, Heap.le_trans hl hl'⟩
/-- the bound on the lengths, of two and of three -/
theorem long2 {K : Value → Heap → Prop} (hK : ∀ h', h.le h' → K (.bool (decide (a.length > 20) || decide (b.length > 20))) h') :
    wpH Try.prog (Instr.buildSlice ty_tLists 2 #[(0, .slice A a.length ac), (1, .slice B b.length bc)]) (fun v hp => ∃ (tA : Option Addr) (tn : Nat) (tc : Nat), v = .slice tA tn tc ∧ FCall Try.prog f_LLong #[.slice tA tn tc] hp K) h := by
  refine lit2_ok tLists rfl rfl rfl ?_
  intro nb hnb
  refine ⟨_, _, _, rfl, ?_⟩
  refine long_spec (ns := [a.length, b.length]) (SlV.new h nb [.slice A a.length ac, .slice B b.length bc] _ _ _ (fun i v hv => by simpa using hv)) rfl (by simp) ?_ (by simpa using hK _ (Heap.le_put _ hnb))
  intro i v hv
  match i, hv with
  | 0, hv => simp at hv; subst hv; exact ⟨_, _, _, rfl, rfl⟩
  | 1, hv => simp at hv; subst hv; exact ⟨_, _, _, rfl, rfl⟩
  | i + 2, hv => simp at hv
theorem long3 {K : Value → Heap → Prop} (hK : ∀ h', h.le h' → K (.bool (decide (a.length > 20) || (decide (b.length > 20) || decide (c.length > 20)))) h') :
    wpH Try.prog (Instr.buildSlice ty_tLists 3 #[(0, .slice A a.length ac), (1, .slice B b.length bc), (2, .slice C c.length cc)]) (fun v hp => ∃ (tA : Option Addr) (tn : Nat) (tc : Nat), v = .slice tA tn tc ∧ FCall Try.prog f_LLong #[.slice tA tn tc] hp K) h := by
  refine lit3_ok tLists rfl rfl rfl rfl ?_
  intro nb hnb
  refine ⟨_, _, _, rfl, ?_⟩
  refine long_spec (ns := [a.length, b.length, c.length]) (SlV.new h nb [.slice A a.length ac, .slice B b.length bc, .slice C c.length cc] _ _ _ (fun i v hv => by simpa using hv)) rfl (by simp) ?_ (by simpa using hK _ (Heap.le_put _ hnb))
  intro i v hv
  match i, hv with
  | 0, hv => simp at hv; subst hv; exact ⟨_, _, _, rfl, rfl⟩
  | 1, hv => simp at hv; subst hv; exact ⟨_, _, _, rfl, rfl⟩
  | 2, hv => simp at hv; subst hv; exact ⟨_, _, _, rfl, rfl⟩
  | i + 3, hv => simp at hv
theorem law_valid (sa : SlI .i64 h A a) (sb : SlI .i64 h B b) : FCall Try.prog f_LMonomialValid #[.slice A a.length ac, .slice B b.length bc] h (LawK h) := by
  refine LMonomialValid_ok _ _ _ _ _ _ ?_
  unfold LMonomialValid
  refine long2 ?_
  intro h1 hl1
  have sa := sa.mono hl1
  have sb := sb.mono hl1
  refine ⟨_, rfl, ?_⟩
  refine Br.of (fun _ => awakeK hl1) (fun _ => ?_)
  refine mindex_spec sa ⟨_, _, rfl, rindex_spec sa ⟨_, _, rfl, mvalid_spec sa ⟨_, rfl, rvalid_spec sa ⟨_, rfl, ?_⟩⟩⟩⟩
  refine Br.of (fun _ => ?_) (fun e => by simp at e)
  refine mdegree_spec sa ⟨_, rfl, rdegree_spec sa ⟨_, rfl, ?_⟩⟩
  refine Br.beq (fun _ => ?_) (fun e => absurd rfl e)
  refine mcompare_spec sa sb ⟨_, rfl, rcompare_spec sa sb ⟨_, rfl, ?_⟩⟩
  refine Br.beq (fun _ => ?_) (fun e => absurd rfl e)
  refine Br.beq (fun _ => ?_) (fun e => absurd rfl e)
  refine Br.of (fun _ => ?_) (fun e => by simp at e)
  refine mparity_spec sa (fun v => ?_) (fun v => ?_)
  · refine ⟨_, _, _, rfl, rparity_spec sa (fun _ => ?_) (fun v' => by rw [v] at v'; cases v')⟩
    refine ⟨_, _, _, rfl, ?_⟩
    refine kints_spec (a := []) (b := []) SlI.nil SlI.nil (by simp) ⟨_, rfl, ?_⟩
    exact Br.of (fun _ => awakeK hl1) (fun e => by simp at e)
  · intro A2 c2 h2 hl2 s2
    refine ⟨_, _, _, rfl, rparity_spec (sa.mono hl2) (fun v' => by rw [v] at v'; cases v') (fun _ => ?_)⟩
    intro A3 c3 h3 hl3 s3
    refine ⟨_, _, _, rfl, ?_⟩
    refine kints_spec (s2.mono hl3) s3 (by have := (valid_facts v).1; simp [parL]; omega) ⟨_, rfl, ?_⟩
    exact Br.of (fun _ => awakeK (Heap.le_trans hl1 (Heap.le_trans hl2 hl3))) (fun e => by simp at e)

/-! ### arithmetic -/
def optL (c : Bool) (l : List Int) : List Int := if c then l else []
def mulC (a b : List Int) : Bool := pairB a b && validB (opL (fun x y => x + y) a b)
def mulL (a b : List Int) : List Int := optL (mulC a b) (opL (fun x y => x + y) a b)
def divL (a b : List Int) : List Int := optL (divB b a) (opL (fun x y => x - y) a b)
def lcmC (a b : List Int) : Bool := pairB a b && validB (opL (fun x y => if y > x then y else x) a b)
def lcmL (a b : List Int) : List Int := optL (lcmC a b) (opL (fun x y => if y > x then y else x) a b)
theorem opt_len {c : Bool} {o : Int → Int → Int} {a b : List Int} (h : c = true → validB a = true) : (optL c (opL o a b)).length ≤ 6 := by
  unfold optL
  split
  · rename_i hc; rw [opL_length]; exact (valid_facts (h hc)).1
  · simp
theorem pair_left {a b : List Int} (h : pairB a b = true) : validB a = true := (pair_facts h).2.1
theorem mulL_len {a b : List Int} : (mulL a b).length ≤ 6 := opt_len fun h => pair_left (Bool.and_eq_true_iff.1 h).1
theorem lcmL_len {a b : List Int} : (lcmL a b).length ≤ 6 := opt_len fun h => pair_left (Bool.and_eq_true_iff.1 h).1
theorem divL_len {a b : List Int} : (divL a b).length ≤ 6 := opt_len fun h => (pair_facts (Bool.and_eq_true_iff.1 h).1).2.2
theorem sum_opL_sub : ∀ (a b : List Int), a.length = b.length → (opL (fun x y => x - y) a b).sum = a.sum - b.sum
  | [], [], _ => rfl
  | x :: a, y :: b, h => by
    have ih := sum_opL_sub a b (by simpa using h)
    have e : opL (fun x y => x - y) (x :: a) (y :: b) = (x - y) :: opL (fun x y => x - y) a b := by
      unfold opL
      rw [List.length_cons, List.range_succ_eq_map, List.map_cons, List.map_map]
      congr 1
    rw [e, List.sum_cons, List.sum_cons, List.sum_cons, ih]; omega
theorem div_cond (a b : List Int) : (pairB a b && validB (opL (fun x y => x - y) a b)) = divB b a := by
  by_cases hp : pairB a b = true
  · obtain ⟨hl, va, vb⟩ := pair_facts hp
    have hp2 : pairB b a = true := by simp [pairB, hl, va, vb]
    obtain ⟨a1, a2, a3, a4⟩ := valid_facts va
    obtain ⟨b1, b2, b3, b4⟩ := valid_facts vb
    unfold divB
    rw [hp, hp2, Bool.true_and, Bool.true_and]
    apply Bool.eq_iff_iff.2
    constructor
    · intro v
      obtain ⟨_, c2, _, _⟩ := valid_facts v
      rw [List.all_eq_true]
      intro i hi
      have hi : i < b.length := by simpa using hi
      have := c2 (a.getD i 0 - b.getD i 0) (List.mem_map.2 ⟨i, by simp; omega, rfl⟩)
      exact decide_eq_true (by omega)
    · intro v
      rw [List.all_eq_true] at v
      refine valid_of (by rw [opL_length]; exact a1) (fun x hx => ?_) (by rw [sum_opL_sub _ _ hl]; have := sum_nonneg' b2; omega)
      obtain ⟨i, hi, rfl⟩ := List.mem_map.1 hx
      have := of_decide_eq_true (v i (by simp at hi ⊢; omega))
      show 0 ≤ a.getD i 0 - b.getD i 0
      omega
  · have hp : pairB a b = false := by simpa using hp
    have hp2 : pairB b a = false := by
      rw [← hp]; unfold pairB; rw [Bool.and_assoc, Bool.and_assoc, Bool.and_comm (validB b), show (b.length == a.length) = (a.length == b.length) from Bool.beq_comm]
    unfold divB
    rw [hp, hp2]; rfl
section
variable {K : Value → Heap → Prop}
theorem opt_no {cnd : Bool} {l : List Int} {h : Heap} (hK : ∀ A' c' h', h.le h' → SlI .i64 h' A' (optL cnd l) → K (.tuple #[.slice A' (optL cnd l).length c', .bool cnd]) h') : cnd = false → ∀ h', h.le h' → K (.tuple #[.slice none 0 0, .bool false]) h' := by
  rintro rfl h' hl
  exact hK none 0 h' hl SlI.nil
theorem opt_yes {cnd : Bool} {l : List Int} {h : Heap} (hK : ∀ A' c' h', h.le h' → SlI .i64 h' A' (optL cnd l) → K (.tuple #[.slice A' (optL cnd l).length c', .bool cnd]) h') : cnd = true → ∀ A' h', h.le h' → SlI .i64 h' A' l → K (.tuple #[.slice A' l.length l.length, .bool true]) h' := by
  rintro rfl A' h' hl s
  exact hK A' _ h' hl s
theorem mmul_opt (sa : SlI .i64 h A a) (sb : SlI .i64 h B b) (hK : ∀ A' c' h', h.le h' → SlI .i64 h' A' (mulL a b) → K (.tuple #[.slice A' (mulL a b).length c', .bool (mulC a b)]) h') : FCall Try.prog f_MMul #[.slice A a.length ac, .slice B b.length bc] h K :=
  mmul_spec sa sb (opt_no hK) (opt_yes hK)
theorem rmul_opt (sa : SlI .i64 h A a) (sb : SlI .i64 h B b) (hK : ∀ A' c' h', h.le h' → SlI .i64 h' A' (mulL a b) → K (.tuple #[.slice A' (mulL a b).length c', .bool (mulC a b)]) h') : FCall Try.prog f_RMul #[.slice A a.length ac, .slice B b.length bc] h K :=
  rmul_spec sa sb (opt_no hK) (opt_yes hK)
theorem mdiv_opt (sa : SlI .i64 h A a) (sb : SlI .i64 h B b) (hK : ∀ A' c' h', h.le h' → SlI .i64 h' A' (divL a b) → K (.tuple #[.slice A' (divL a b).length c', .bool (divB b a)]) h') : FCall Try.prog f_MDiv #[.slice A a.length ac, .slice B b.length bc] h K :=
  mdiv_spec sa sb (by rw [div_cond]; exact opt_no hK) (by rw [div_cond]; exact opt_yes hK)
theorem rdiv_opt (sa : SlI .i64 h A a) (sb : SlI .i64 h B b) (hK : ∀ A' c' h', h.le h' → SlI .i64 h' A' (divL a b) → K (.tuple #[.slice A' (divL a b).length c', .bool (divB b a)]) h') : FCall Try.prog f_RDiv #[.slice A a.length ac, .slice B b.length bc] h K :=
  rdiv_spec sa sb (fun e => opt_no hK e h (Heap.le_refl h)) (opt_yes hK)
theorem mlcm_opt (sa : SlI .i64 h A a) (sb : SlI .i64 h B b) (hK : ∀ A' c' h', h.le h' → SlI .i64 h' A' (lcmL a b) → K (.tuple #[.slice A' (lcmL a b).length c', .bool (lcmC a b)]) h') : FCall Try.prog f_MLcm #[.slice A a.length ac, .slice B b.length bc] h K :=
  mlcm_spec sa sb (opt_no hK) (opt_yes hK)
theorem rlcm_opt (sa : SlI .i64 h A a) (sb : SlI .i64 h B b) (hK : ∀ A' c' h', h.le h' → SlI .i64 h' A' (lcmL a b) → K (.tuple #[.slice A' (lcmL a b).length c', .bool (lcmC a b)]) h') : FCall Try.prog f_RLcm #[.slice A a.length ac, .slice B b.length bc] h K :=
  rlcm_spec sa sb (opt_no hK) (opt_yes hK)
end
theorem law_arithmetic (sa : SlI .i64 h A a) (sb : SlI .i64 h B b) : FCall Try.prog f_LMonomialArithmetic #[.slice A a.length ac, .slice B b.length bc] h (LawK h) := by
  refine LMonomialArithmetic_ok _ _ _ _ _ _ ?_
  unfold LMonomialArithmetic
  refine long2 ?_
  intro h1 hl1
  have sa := sa.mono hl1
  have sb := sb.mono hl1
  refine ⟨_, rfl, ?_⟩
  refine Br.of (fun _ => awakeK hl1) (fun _ => ?_)
  refine mmul_opt sa sb ?_
  intro A2 c2 h2 hl2 s2
  refine ⟨_, _, _, _, rfl, ?_⟩
  have sa := sa.mono hl2
  have sb := sb.mono hl2
  refine rmul_opt sa sb ?_
  intro A3 c3 h3 hl3 s3
  refine ⟨_, _, _, _, rfl, ?_⟩
  have sa := sa.mono hl3
  have sb := sb.mono hl3
  refine mdiv_opt sa sb ?_
  intro A4 c4 h4 hl4 s4
  refine ⟨_, _, _, _, rfl, ?_⟩
  have sa := sa.mono hl4
  have sb := sb.mono hl4
  refine rdiv_opt sa sb ?_
  intro A5 c5 h5 hl5 s5
  refine ⟨_, _, _, _, rfl, ?_⟩
  have sa := sa.mono hl5
  have sb := sb.mono hl5
  refine mlcm_opt sa sb ?_
  intro A6 c6 h6 hl6 s6
  refine ⟨_, _, _, _, rfl, ?_⟩
  have sa := sa.mono hl6
  have sb := sb.mono hl6
  refine rlcm_opt sa sb ?_
  intro A7 c7 h7 hl7 s7
  refine ⟨_, _, _, _, rfl, ?_⟩
  have sa := sa.mono hl7
  have sb := sb.mono hl7
  have l67 := Heap.le_trans hl6 hl7
  have l57 := Heap.le_trans hl5 l67
  have l47 := Heap.le_trans hl4 l57
  have l37 := Heap.le_trans hl3 l47
  refine kints_spec (s2.mono l37) (s3.mono l47) (Nat.le_trans mulL_len (by decide)) ⟨_, rfl, ?_⟩
  refine Br.of (fun _ => ?_) (fun e => by simp at e)
  refine Br.of (fun _ => ?_) (fun e => by simp at e)
  refine kints_spec (s4.mono l57) (s5.mono l67) (Nat.le_trans divL_len (by decide)) ⟨_, rfl, ?_⟩
  refine Br.of (fun _ => ?_) (fun e => by simp at e)
  refine Br.of (fun _ => ?_) (fun e => by simp at e)
  refine kints_spec (s6.mono hl7) s7 (Nat.le_trans lcmL_len (by decide)) ⟨_, rfl, ?_⟩
  refine Br.of (fun _ => ?_) (fun e => by simp at e)
  refine Br.of (fun _ => ?_) (fun e => by simp at e)
  refine mdivides_spec sa sb ⟨_, rfl, rdivides_spec sa sb ⟨_, rfl, ?_⟩⟩
  exact Br.of (fun _ => awakeK (Heap.le_trans hl1 (Heap.le_trans hl2 l37))) (fun e => by simp at e)
end
end Go.Proofs.Ytlmdojkanhmioaa
