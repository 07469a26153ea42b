/-
  All, and the small functions of the statements: long, awake.
-/
import Derived.Test.YtlmdojkanhmioaaMonoD
namespace Go.Proofs.Ytlmdojkanhmioaa
open Go

theorem lit2_ok {P : Program} {t e : TypeId} {z : Value} {bytes : Nat} (s : SliceT P t e z 1 bytes) {u v : Value} (hz : z.cells = #[z]) (hu : u.cells = #[u]) (hv : v.cells = #[v]) {K : Value → Heap → Prop} {h : Heap}
    (x : ∀ b, h b = none → K (.slice (some ⟨b, 0, none⟩) 2 2) (h.put b (.cells #[u, v] e))) : wpH P (Instr.buildSlice t 2 #[(0, u), (1, v)]) K h := by
  refine buildSlice_ok s (by omega) (cells := #[u, v]) ?_ x
  rw [hz, repCells_one]
  simp [Instr.fill, hu, hv, List.replicate]
theorem lit3_ok {P : Program} {t e : TypeId} {z : Value} {bytes : Nat} (s : SliceT P t e z 1 bytes) {u v w : Value} (hz : z.cells = #[z]) (hu : u.cells = #[u]) (hv : v.cells = #[v]) (hw : w.cells = #[w]) {K : Value → Heap → Prop} {h : Heap}
    (x : ∀ b, h b = none → K (.slice (some ⟨b, 0, none⟩) 3 3) (h.put b (.cells #[u, v, w] e))) : wpH P (Instr.buildSlice t 3 #[(0, u), (1, v), (2, w)]) K h := by
  refine buildSlice_ok s (by omega) (cells := #[u, v, w]) ?_ x
  rw [hz, repCells_one]
  simp [Instr.fill, hu, hv, hw, List.replicate]
theorem ints2_ok {P : Program} {bytes : Nat} {t e : TypeId} (s : SliceT P t e (I 0) 1 bytes) {u v : Int} {K : Value → Heap → Prop} {h : Heap}
    (x : ∀ A h', h.le h' → SlI .i64 h' A [u, v] → K (.slice A [u, v].length 2) h') : wpH P (Instr.buildSlice t 2 #[(0, I u), (1, I v)]) K h :=
  lit2_ok s rfl rfl rfl fun b hb => x _ _ (Heap.le_put _ hb) (SlI.new h b [u, v] e _)

def preM (n k : Nat) : List (List Int) := (List.range k).flatMap (monoL n)
theorem preM_succ (n k : Nat) : preM n (k + 1) = preM n k ++ monoL n k := by simp [preM, List.range_succ]
theorem preM_len (n k : Nat) : (preM n k).length = ((List.range k).map (lenL n)).sum := by
  simp only [preM, List.length_flatMap]
  congr 1
  apply List.map_congr_left
  intro j _; exact monoL_len n j
/-- what All answers: the list and the error -/
def allErr (n d : Int) : Int := if inRange n d then (if cntF n d > 4096 then 2 else 0) else 3
def allR (n d : Int) : List (List Int) := if inRange n d then (if cntF n d > 4096 then [] else preM n.toNat (d.toNat + 1)) else []
theorem SlR.nil {h : Heap} {A : Option Addr} : SlR h A [] := ⟨[], .inl rfl, trivial⟩
theorem SlR.mono {h h' : Heap} (hl : h.le h') {A : Option Addr} {xss : List (List Int)} (s : SlR h A xss) : SlR h' A xss := by
  obtain ⟨vs, h1, h2⟩ := s; exact ⟨vs, h1.mono hl, h2.mono hl⟩

section
variable {h g : Heap} {K : Value → Heap → Prop}
theorem mall_spec {n d : Int} (hK : ∀ A c h', h.le h' → SlR h' A (allR n d) → K (.tuple #[.slice A (allR n d).length c, I (allErr n d)]) h') : FCall Try.prog f_MAll #[I n, I d] h K := by
  refine MAll_ok _ _ ?_
  unfold MAll
  refine mcount_spec ⟨_, _, rfl, ?_⟩
  refine Br.not (Br.of (fun h1 => ?_) (fun h1 => ?_))
  · refine Br.dec (fun h2 => ?_) (fun h2 => ?_)
    · have := hK none 0 h (Heap.le_refl h) (by unfold allR; rw [if_pos h1, if_pos h2]; exact SlR.nil)
      unfold allR allErr at this
      rw [if_pos h1, if_pos h2, if_pos h1, if_pos h2] at this
      exact this
    · have hr := of_decide_eq_true h1
      have hcb := cnt_bound n d
      refine make_ok tLists (by omega) hcb.1 (by omega) (by omega) ?_
      intro b hb
      refine ⟨_, _, _, rfl, ?_⟩
      obtain ⟨n', rfl⟩ : ∃ n' : Nat, n = n' := ⟨n.toNat, by omega⟩
      obtain ⟨d', rfl⟩ : ∃ d' : Nat, d = d' := ⟨d.toNat, by omega⟩
      have hLL : allR n' d' = preM n' (d' + 1) := by unfold allR; rw [if_pos h1, if_neg h2]; simp
      have hEE : allErr n' d' = 0 := by unfold allErr; rw [if_pos h1, if_neg h2]
      refine ⟨fun l h' => ∃ (k : Nat) (R' : Option Addr) (c' : Nat) (g' : Heap), l = [.slice R' (preM n' k).length c', I k] ∧ k ≤ d' + 1 ∧ h.le g' ∧ PrivR h' g' R' c' (preM n' k), fun l _ => (d' + 1) - (iAt l 1).toNat, ⟨0, some ⟨b, 0, none⟩, _, h, rfl, by omega, Heap.le_refl h, [], ⟨rfl, Nat.zero_le _, .inr ⟨b, List.replicate (cntF n' d').toNat (.slice none 0 0), rfl, hb, ?_, ?_, rfl⟩⟩, trivial⟩, ?_⟩
      · rw [show (Value.slice none 0 0).cells = #[.slice none 0 0] from rfl, repCells_one]
      · simp
      rintro R1 n1 c1 t hp ⟨k, R', c', g', hl, hk, hg, p1⟩
      obtain ⟨⟨rfl, rfl, rfl⟩, rfl⟩ : (R1 = R' ∧ n1 = (preM n' k).length ∧ c1 = c') ∧ t = (k : Int) := by simpa using hl
      rw [wi64_id (n := (d' : Int) + 1) (by omega) (by omega)]
      refine Br.dec (fun h3 => ?_) (fun h3 => ?_)
      · have hs := sum_lenL_le (n := n') (k := k + 1) (by omega) (by omega)
        have hsum : ((List.range (k + 1)).map (lenL n')).sum = ((List.range k).map (lenL n')).sum + lenL n' k := by
          rw [List.range_succ, List.map_append, List.sum_append]; simp
        have hpl := preM_len n' k
        refine appdeg_spec n' (by omega) k [] (preM n' k) R1 none c1 0 hp g' _ (by omega) (by simp; omega) (by omega) p1 SlI.nil ?_
        intro R5 c5 h5 g5 hg5 p5
        rw [show (monoL n' k).map (· ++ []) = monoL n' k by simp, ← preM_succ] at p5 ⊢
        rw [wi64_id (n := (k : Int) + 1) (by omega) (by omega)]
        exact ⟨_, _, _, rfl, ⟨k + 1, R5, c5, g5, rfl, by omega, Heap.le_trans hg hg5, p5⟩, by simp only [iAt, List.getElem?_cons_succ, List.getElem?_cons_zero]; omega⟩
      · have hkd : k = d' + 1 := by omega
        subst hkd
        have := hK R1 c1 hp (Heap.le_trans hg p1.le) (by rw [hLL]; exact p1.slR)
        rw [hLL, hEE] at this; exact this
  · have := hK none 0 h (Heap.le_refl h) (by unfold allR; rw [if_neg (by simp [h1])]; exact SlR.nil)
    unfold allR allErr at this
    rw [if_neg (by simp [h1]), if_neg (by simp [h1])] at this
    simpa [h1] using this

/-- a list of any slices, of which the lengths are known -/
theorem long_spec {A : Option Addr} {c : Nat} {vs : List Value} {ns : List Nat} (sl : SlV h A vs) (hv : vs.length = ns.length) (hlen : ns.length ≤ 3) (hs : ∀ (i : Nat) (v : Value), vs[i]? = some v → ∃ B m d, v = .slice B m d ∧ ns[i]? = some m) (hK : K (.bool (ns.any fun n => decide (n > 20))) h) : FCall Try.prog f_LLong #[.slice A ns.length c] h K := by
  refine LLong_ok _ _ _ ?_
  unfold LLong
  refine ⟨fun l h' => ∃ k : Nat, l = [I k] ∧ k ≤ ns.length ∧ h' = h ∧ ∀ i m, i < k → ns[i]? = some m → m ≤ 20, fun l _ => ns.length - (iAt l 0).toNat, ⟨0, rfl, by omega, rfl, fun i m hi => by omega⟩, ?_⟩
  rintro i hp ⟨k, hl, hk, rfl, hk2⟩
  obtain rfl : i = (k : Int) := by simpa using hl
  refine Br.dec (fun h1 => ?_) (fun h1 => ?_)
  · have hk3 : k < ns.length := by omega
    obtain ⟨a, ha, hc⟩ := sl.at (i := k) (by omega)
    obtain ⟨B, m, d, hvv, hm⟩ := hs k _ (List.getElem?_eq_getElem (by omega))
    refine ⟨a, ha, by omega, by omega, B, m, d, ?_, ?_⟩
    · rw [Int.toNat_natCast, Nat.mul_one, hc, hvv]
    · have hmm : m ∈ ns := List.mem_of_getElem? hm
      refine Br.dec (fun h2 => ?_) (fun h2 => ?_)
      · have e : (ns.any fun n => decide (n > 20)) = true := List.any_eq_true.2 ⟨m, hmm, decide_eq_true (by omega)⟩
        rw [e] at hK; exact hK
      · rw [wi64_id (n := (k : Int) + 1) (by omega) (by omega)]
        refine ⟨⟨k + 1, rfl, by omega, rfl, fun i m' hi hm' => ?_⟩, by simp only [iAt, List.getElem?_cons_zero]; omega⟩
        by_cases e : i = k
        · subst e; rw [hm] at hm'; cases hm'; omega
        · exact hk2 i m' (by omega) hm'
  · have e : (ns.any fun n => decide (n > 20)) = false := by
      rw [List.any_eq_false]
      intro m hm
      obtain ⟨i, hi, rfl⟩ := List.getElem_of_mem hm
      have := hk2 i _ (by omega) (List.getElem?_eq_getElem hi)
      simp; omega
    rw [e] at hK; exact hK

theorem awake_spec (hK : ∀ h', h.le h' → K (.bool true) h') : FCall Try.prog f_LAwake #[] h K := by
  refine LAwake_ok ?_
  unfold LAwake
  refine mall_spec ?_
  intro A c h1 hl1 s1
  have hLL : allR 2 2 = [[0, 0], [0, 1], [1, 0], [0, 2], [1, 1], [2, 0]] := by decide +kernel
  have hEE : allErr 2 2 = 0 := by decide +kernel
  rw [hLL] at s1 ⊢
  rw [hEE]
  refine ⟨_, _, _, _, rfl, ?_⟩
  refine ints2_ok tInts ?_
  intro A2 h2 hl2 s2
  refine ⟨_, _, _, rfl, mindex_spec s2 ⟨_, _, rfl, ?_⟩⟩
  refine Br.beq (fun _ => ?_) (fun e => absurd rfl e)
  refine Br.beq (fun _ => ?_) (fun e => absurd rfl e)
  obtain ⟨vs, sv, rv⟩ := s1.mono hl2
  obtain ⟨v, hv, B, bc, rfl, sB, _⟩ := rv.at (i := 3) (by decide)
  have hvl : 3 < vs.length := by rw [rv.length]; decide
  obtain ⟨a, ha, hc⟩ := sv.at hvl
  rw [List.getElem?_eq_getElem hvl] at hv
  refine ⟨a, ha, by decide, by decide, _, _, _, by rw [show (3 : Int).toNat * 1 = 3 from rfl, hc]; exact hv, ?_⟩
  have e3 : ([[0, 0], [0, 1], [1, 0], [0, 2], [1, 1], [2, 0]] : List (List Int)).getD 3 [] = [0, 2] := rfl
  rw [e3] at sB ⊢
  refine ints2_ok tInts ?_
  intro A4 h4 hl4 s4
  refine ⟨_, _, _, rfl, kints_spec (sB.mono hl4) s4 (by decide) ⟨_, rfl, ?_⟩⟩
  refine Br.of (fun _ => ?_) (fun e => absurd e (by decide))
  have hv1 : validB [1, 1] = true := by decide +kernel
  have hi1 : idxF [1, 1] = 4 := by decide +kernel
  rw [hv1, if_pos rfl, hi1]
  refine Br.beq (fun _ => ?_) (fun e => absurd rfl e)
  refine Br.of (fun _ => ?_) (fun e => absurd e (by decide))
  refine ints2_ok tInts ?_
  intro A5 h5 hl5 s5
  refine ⟨_, _, _, rfl, ?_⟩
  refine ints2_ok tInts ?_
  intro A6 h6 hl6 s6
  refine ⟨_, _, _, rfl, mcompare_spec (s5.mono hl6) s6 ⟨_, rfl, ?_⟩⟩
  have hc1 : compF [1, 0] [0, 1] = 1 := by decide +kernel
  rw [hc1]
  exact hK h6 (Heap.le_trans hl1 (Heap.le_trans hl2 (Heap.le_trans hl4 (Heap.le_trans hl5 hl6))))
end
end Go.Proofs.Ytlmdojkanhmioaa
