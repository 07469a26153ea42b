/-
  The reference's list: exact, List, All; Lists; the law MonomialAll.
-/
import Derived.Test.YtlmdojkanhmioaaMonoF
namespace Go.Proofs.Ytlmdojkanhmioaa
open Go Go.RowKit

/-! ### a call beside a block that it cannot see -/
theorem FCall.frame {P : Program} {f : FuncId} {args : Array Value} {g : Heap} {b : Nat} {o : Obj} (hb : g b = none) {K K' : Value → Heap → Prop} (x : FCall P f args g K) (hk : ∀ r h0, h0 b = none → K r h0 → K' r (h0.put b o)) : FCall P f args (g.put b o) K' := by
  intro W hs
  have hWb : W.heap[b]? = some o := hs b o (Heap.put_same g b o)
  have hlt : b < W.heap.size := by
    by_cases h : b < W.heap.size
    · exact h
    · rw [Array.getElem?_eq_none (by omega)] at hWb; cases hWb
  have hs' : Sim g W := fun k o' e => hs k o' (Heap.le_put o hb k o' e)
  refine (x W hs').mono ?_
  rintro e W' ⟨r, h0, he, hK, fr⟩
  have h0b : h0 b = none := by
    cases hx : h0 b with
    | none => rfl
    | some o' => have := fr.new b o' hb hx; omega
  refine ⟨r, h0.put b o, he, hk r h0 h0b hK, ⟨fun k o' e => ?_, fr.os, fr.tape, fr.output, fr.size, fun k hlt' e => ?_, fun k o' e e' => ?_⟩⟩
  · by_cases hkb : k = b
    · subst hkb
      rw [Heap.put_same] at e
      cases e
      rw [fr.keep k hlt hb]; exact hWb
    · rw [Heap.put_other _ _ hkb] at e
      exact fr.sim k o' e
  · have hkb : k ≠ b := by rintro rfl; rw [Heap.put_same] at e; cases e
    rw [Heap.put_other _ _ hkb] at e
    exact fr.keep k hlt' e
  · have hkb : k ≠ b := by rintro rfl; rw [Heap.put_same] at e; cases e
    rw [Heap.put_other _ _ hkb] at e e'
    exact fr.new k o' e e'
theorem Priv.call {P : Program} {f : FuncId} {args : Array Value} {h g : Heap} {e : TypeId} {s : Nat} {A : Option Addr} {n c : Nat} {xs : List Value} (p : Priv h g e s A n c xs) {K : Value → Heap → Prop} (x : FCall P f args g (fun r h0 => ∀ h', Priv h' h0 e s A n c xs → K r h')) : FCall P f args h K := by
  rcases p with ⟨h1, hnc, ⟨hc0, rfl⟩ | ⟨b, arr, hA, hgb, rfl, har⟩⟩
  · exact x.mono fun r h0 hk => hk h0 ⟨h1, hnc, .inl ⟨hc0, rfl⟩⟩
  · exact FCall.frame hgb x fun r h0 h0b hk => hk _ ⟨h1, hnc, .inr ⟨b, arr, hA, h0b, rfl, har⟩⟩
theorem PrivR.call {P : Program} {f : FuncId} {args : Array Value} {h g : Heap} {A : Option Addr} {c : Nat} {xss : List (List Int)} (p : PrivR h g A c xss) {K : Value → Heap → Prop} (x : FCall P f args g (fun r h0 => g.le h0 ∧ ∀ h', PrivR h' h0 A c xss → K r h')) : FCall P f args h K := by
  obtain ⟨vs, p1, rv⟩ := p
  exact p1.call (x.mono fun r h0 ⟨hl, hk⟩ h' p' => hk h' ⟨vs, p', rv.mono hl⟩)

section
variable {h g : Heap} {K : Value → Heap → Prop}
theorem monoL_one (d : Nat) : monoL 1 d = [[(d : Int)]] := by
  simp only [monoL]
  rw [List.range_succ_eq_map]
  simp [List.flatMap_cons, List.flatMap_map]
theorem exact_spec (n : Nat) : n ≤ 6 → ∀ (d : Nat) (xss : List (List Int)) (R : Option Addr) (rc : Nat) (h g : Heap) (K : Value → Heap → Prop), d ≤ 24 → xss.length + lenL n d ≤ 1000000 → PrivR h g R rc xss →
    (∀ R' c' h' g', g.le g' → PrivR h' g' R' c' (xss ++ monoL n d) → K (.slice R' (xss ++ monoL n d).length c') h') →
    FCall Try.prog f_RExact #[.slice R xss.length rc, I n, I d] h K := by
  induction n with
  | zero =>
    intro _ d xss R rc h g K hd hlen p hK
    refine RExact_ok _ _ _ _ _ ?_
    unfold RExact
    refine Br.beq (fun _ => ?_) (fun h0 => absurd rfl h0)
    refine Br.beq (fun h1 => ?_) (fun h1 => ?_)
    · have hd0 : d = 0 := by omega
      subst hd0
      refine pushR_ok tLists p (xs := []) rfl SlI.nil (by simp) (by omega) ?_
      intro A4 c4 h4 g4 hg4 p4
      exact hK A4 c4 h4 g4 hg4 p4
    · have e : monoL 0 d = [] := by simp only [monoL]; rw [if_neg (by omega)]
      have := hK R rc h g (Heap.le_refl g) (by rw [e]; simpa using p)
      rw [e] at this; simpa using this
  | succ n ih =>
    intro hn d xss R rc h g K hd hlen p hK
    have hlen' : xss.length + ((List.range (d + 1)).map (lenL n)).sum ≤ 1000000 := hlen
    refine RExact_ok _ _ _ _ _ ?_
    unfold RExact
    refine Br.beq (fun h0 => by omega) (fun _ => ?_)
    refine Br.beq (fun h1 => ?_) (fun h1 => ?_)
    · have hn0 : n = 0 := by omega
      subst hn0
      refine lit1_ok tInts rfl ?_
      intro nb hnb
      refine ⟨_, _, _, rfl, ?_⟩
      have pn : Priv (h.put nb (.cells #[I d] ty_tInts_e)) h ty_tInts_e 1 (some ⟨nb, 0, none⟩) 1 1 ([(d : Int)].map I) := ⟨rfl, Nat.le_refl _, .inr ⟨nb, [I d], rfl, hnb, rfl, rfl, rfl⟩⟩
      obtain ⟨g3, hg3, p3, hk3⟩ := p.grow (Heap.le_put (.cells #[I d] ty_tInts_e) hnb)
      have s3 : SlI .i64 g3 (some ⟨nb, 0, none⟩) [(d : Int)] := Priv.freshI pn (Heap.le_refl h) hk3
      refine pushR_ok tLists p3 (xs := [(d : Int)]) rfl s3 (by simp) (by omega) ?_
      intro A4 c4 h4 g4 hg4 p4
      have := hK A4 c4 h4 g4 (Heap.le_trans hg3 hg4) (by rw [monoL_one]; exact p4)
      rw [monoL_one] at this; exact this
    · refine ⟨fun l h' => ∃ (k : Nat) (R' : Option Addr) (c' : Nat) (g' : Heap), l = [.slice R' (xss ++ roundsL n d k []).length c', I ((d : Int) - k)] ∧ k ≤ d + 1 ∧ g.le g' ∧ PrivR h' g' R' c' (xss ++ roundsL n d k []), fun l _ => (iAt l 1 + 1).toNat, ⟨0, R, rc, g, by simp [roundsL], by omega, Heap.le_refl g, by simpa [roundsL] using p⟩, ?_⟩
      rintro R1 n1 c1 last hp ⟨k, R', c', g', hl, hk, hg, p1⟩
      obtain ⟨⟨rfl, rfl, rfl⟩, rfl⟩ : (R1 = R' ∧ n1 = (xss ++ roundsL n d k []).length ∧ c1 = c') ∧ last = (d : Int) - k := by simpa using hl
      refine Br.dec (fun h2 => ?_) (fun h2 => ?_)
      · have e1 : wi64 (((n + 1 : Nat) : Int) - 1) = (n : Int) := by rw [wi64_id (by omega) (by omega)]; omega
        have e2 : wi64 ((d : Int) - ((d : Int) - k)) = (k : Int) := by rw [wi64_id (by omega) (by omega)]; omega
        have e3 : wi64 ((d : Int) - k - 1) = (d : Int) - (k + 1 : Nat) := by rw [wi64_id (by omega) (by omega)]; omega
        rw [e1, e2, e3]
        have hsum : ((List.range (k + 1)).map (lenL n)).sum = ((List.range k).map (lenL n)).sum + lenL n k := by
          rw [List.range_succ, List.map_append, List.sum_append]; simp
        have hle := sum_range_le (lenL n) (show k + 1 ≤ d + 1 by omega)
        have hr := roundsL_len n d k []
        have hml := monoL_len n k
        have p0 : PrivR g' g' none 0 [] := ⟨[], Priv.nil _ _ _ _, trivial⟩
        refine p1.call (ih (by omega) k [] none 0 g' g' _ (by omega) (by simp; omega) p0 ?_)
        intro R5 c5 h5 g5 hg5 p5
        rw [List.nil_append] at p5 ⊢
        have hl5 : g'.le h5 := Heap.le_trans hg5 p5.le
        refine ⟨hl5, fun hp6 p6 => ⟨_, _, _, rfl, ?_⟩⟩
        obtain ⟨vs5, sl5, rv5⟩ := p5.slR
        have hvl := rv5.length
        refine ⟨fun l h' => ∃ (m : Nat) (R' : Option Addr) (c' : Nat) (g2 : Heap), l = [.slice R' (xss ++ roundsL n d k [] ++ ((monoL n k).take m).map (· ++ [(d : Int) - k])).length c', I m] ∧ m ≤ (monoL n k).length ∧ h5.le g2 ∧ PrivR h' g2 R' c' (xss ++ roundsL n d k [] ++ ((monoL n k).take m).map (· ++ [(d : Int) - k])), fun l _ => (monoL n k).length - (iAt l 1).toNat, ⟨0, R1, c1, h5, by simp, by omega, Heap.le_refl h5, by simpa using p6⟩, ?_⟩
        rintro R7 n7 c7 i7 hp7 ⟨m, R', c', g2, hl7, hm, hg7, p7⟩
        obtain ⟨⟨rfl, rfl, rfl⟩, rfl⟩ : (R7 = R' ∧ n7 = (xss ++ roundsL n d k [] ++ ((monoL n k).take m).map (· ++ [(d : Int) - k])).length ∧ c7 = c') ∧ i7 = (m : Int) := by simpa using hl7
        refine Br.dec (fun h3 => ?_) (fun h3 => ?_)
        · have hmlt : m < (monoL n k).length := by omega
          refine lit0_ok tInts ?_
          intro nb hnb
          refine ⟨_, _, _, rfl, ?_⟩
          have hle8 : h5.le (hp7.put nb (.cells #[] ty_tInts_e)) := Heap.le_trans hg7 (Heap.le_trans p7.le (Heap.le_put _ hnb))
          obtain ⟨v, hv, B, bc, rfl, sB, hB6⟩ := rv5.at hmlt
          obtain ⟨a, ha, hc⟩ := (sl5.mono hle8).at (i := m) (by omega)
          rw [List.getElem?_eq_getElem (by omega)] at hv
          refine ⟨a, ha, by omega, by omega, B, _, bc, by rw [Int.toNat_natCast, Nat.mul_one, hc]; exact hv, ?_⟩
          have hrow : ((monoL n k).getD m []).length = n := by
            have : (monoL n k).getD m [] = (monoL n k)[m] := by simp [List.getD, hmlt]
            rw [this]; exact monoL_row n k _ (List.getElem_mem hmlt)
          have sB8 := sB.mono hle8
          have pn : Priv (hp7.put nb (.cells #[] ty_tInts_e)) (hp7.put nb (.cells #[] ty_tInts_e)) ty_tInts_e 1 (some ⟨nb, 0, none⟩) 0 0 [] := Priv.nil _ _ _ _
          refine append_ok tInts pn (m := ((monoL n k).getD m []).length) (ys := ((monoL n k).getD m []).map I) (by simp) ?_ (by simp [oneC]) (by omega) (by omega) ?_
          · rcases sB8 with hnil | hcc
            · exact .inl hnil
            · exact .inr hcc
          intro A9 c9 h9 g9 hg9 p9
          refine ⟨_, _, _, rfl, ?_⟩
          refine push_ok tInts p9 rfl rfl (by omega) (by omega) ?_
          intro A10 c10 h10 g10 hg10 p10
          have hl10 : hp7.le g10 := Heap.le_trans (Heap.le_put _ hnb) (Heap.le_trans hg9 hg10)
          obtain ⟨g11, hg11, p11, hk11⟩ := p7.grow (Heap.le_trans hl10 p10.le)
          have s11 : SlI .i64 g11 A10 ((monoL n k).getD m [] ++ [(d : Int) - k]) := Priv.freshI (by simpa using p10) hl10 hk11
          have hlx : (xss ++ roundsL n d k [] ++ ((monoL n k).take m).map (· ++ [(d : Int) - k])).length ≤ 1000000 := by
            rw [List.length_append, List.length_append, List.length_map, List.length_take, hr]; omega
          refine pushR_ok tLists p11 (by simp) s11 (by rw [List.length_append, hrow]; simp; omega) hlx ?_
          intro A12 c12 h12 g12 hg12 p12
          have etk : xss ++ roundsL n d k [] ++ ((monoL n k).take m).map (· ++ [(d : Int) - k]) ++ [(monoL n k).getD m [] ++ [(d : Int) - k]] = xss ++ roundsL n d k [] ++ ((monoL n k).take (m + 1)).map (· ++ [(d : Int) - k]) := by
            rw [List.take_succ_eq_append_getElem hmlt, List.map_append, List.append_assoc]
            simp [List.getD, hmlt]
          rw [etk] at p12 ⊢
          rw [wi64_id (n := (m : Int) + 1) (by omega) (by omega)]
          exact ⟨⟨m + 1, A12, c12, g12, rfl, by omega, Heap.le_trans hg7 (Heap.le_trans hg11 hg12), p12⟩, by simp only [iAt, List.getElem?_cons_succ, List.getElem?_cons_zero]; omega⟩
        · have hmm : m = (monoL n k).length := by omega
          subst hmm
          rw [List.take_length, List.append_assoc, ← roundsL_succ] at p7 ⊢
          exact ⟨⟨k + 1, R7, c7, g2, rfl, by omega, Heap.le_trans hg (Heap.le_trans hl5 hg7), p7⟩, by simp only [iAt, List.getElem?_cons_succ, List.getElem?_cons_zero]; omega⟩
      · have hkd : k = d + 1 := by omega
        subst hkd
        have e0 : roundsL n d (d + 1) [] = monoL (n + 1) d := by rw [roundsL_all]; simp
        have := hK R1 c1 hp g' hg (by rw [← e0]; exact p1)
        rw [← e0] at this; exact this

theorem rlist_spec {n d : Nat} (hn : n ≤ 6) (hd : d ≤ 24) (hK : ∀ A c h', h.le h' → SlR h' A (preM n (d + 1)) → K (.slice A (preM n (d + 1)).length c) h') : FCall Try.prog f_RList #[I n, I d] h K := by
  refine RList_ok _ _ ?_
  unfold RList
  refine ⟨fun l h' => ∃ (k : Nat) (R' : Option Addr) (c' : Nat) (g' : Heap), l = [.slice R' (preM n k).length c', I k] ∧ k ≤ d + 1 ∧ h.le g' ∧ PrivR h' g' R' c' (preM n k), fun l _ => (d + 1) - (iAt l 1).toNat, ⟨0, none, 0, h, rfl, by omega, Heap.le_refl h, [], Priv.nil _ _ _ _, trivial⟩, ?_⟩
  rintro R1 n1 c1 t hp ⟨k, R', c', g', hl, hk, hg, p1⟩
  obtain ⟨⟨rfl, rfl, rfl⟩, rfl⟩ : (R1 = R' ∧ n1 = (preM n k).length ∧ c1 = c') ∧ t = (k : Int) := by simpa using hl
  refine Br.dec (fun h3 => ?_) (fun h3 => ?_)
  · have hs := sum_lenL_le (n := n) (k := k + 1) (by omega) (by omega)
    have hsum : ((List.range (k + 1)).map (lenL n)).sum = ((List.range k).map (lenL n)).sum + lenL n k := by
      rw [List.range_succ, List.map_append, List.sum_append]; simp
    have hpl := preM_len n k
    refine exact_spec n (by omega) k (preM n k) R1 c1 hp g' _ (by omega) (by omega) p1 ?_
    intro R5 c5 h5 g5 hg5 p5
    rw [← preM_succ] at p5 ⊢
    rw [wi64_id (n := (k : Int) + 1) (by omega) (by omega)]
    exact ⟨_, _, _, rfl, ⟨k + 1, R5, c5, g5, rfl, by omega, Heap.le_trans hg hg5, p5⟩, by simp only [iAt, List.getElem?_cons_succ, List.getElem?_cons_zero]; omega⟩
  · have hkd : k = d + 1 := by omega
    subst hkd
    exact hK R1 c1 hp (Heap.le_trans hg p1.le) p1.slR
theorem rall_spec {n d : Int} (hK : ∀ A c h', h.le h' → SlR h' A (allR n d) → K (.tuple #[.slice A (allR n d).length c, I (allErr n d)]) h') : FCall Try.prog f_RAll #[I n, I d] h K := by
  refine RAll_ok _ _ ?_
  unfold RAll
  refine rcount_spec ⟨_, _, rfl, ?_⟩
  refine Br.not (Br.of (fun h1 => ?_) (fun h1 => ?_))
  · refine Br.dec (fun h2 => ?_) (fun h2 => ?_)
    · have := hK none 0 h (Heap.le_refl h) (by unfold allR; rw [if_pos h1, if_pos h2]; exact SlR.nil)
      unfold allR allErr at this
      rw [if_pos h1, if_pos h2, if_pos h1, if_pos h2] at this
      exact this
    · have hr := of_decide_eq_true h1
      obtain ⟨n', rfl⟩ : ∃ n' : Nat, n = n' := ⟨n.toNat, by omega⟩
      obtain ⟨d', rfl⟩ : ∃ d' : Nat, d = d' := ⟨d.toNat, by omega⟩
      have hLL : allR n' d' = preM n' (d' + 1) := by unfold allR; rw [if_pos h1, if_neg h2]; simp
      have hEE : allErr n' d' = 0 := by unfold allErr; rw [if_pos h1, if_neg h2]
      refine rlist_spec (by omega) (by omega) ?_
      intro A c h' hl s
      refine ⟨_, _, _, rfl, ?_⟩
      have := hK A c h' hl (by rw [hLL]; exact s)
      rw [hLL, hEE] at this; exact this
  · have := hK none 0 h (Heap.le_refl h) (by unfold allR; rw [if_neg (by simp [h1])]; exact SlR.nil)
    unfold allR allErr at this
    rw [if_neg (by simp [h1]), if_neg (by simp [h1])] at this
    simpa [h1] using this
theorem SlR.row {A : Option Addr} {xss : List (List Int)} (s : SlR h A xss) {i : Nat} (hi : i < xss.length) : ∃ a B bc, A = some a ∧ h.cell? (a.add i) = some (.slice B xss[i].length bc) ∧ SlI .i64 h B xss[i] ∧ xss[i].length ≤ 6 := by
  obtain ⟨vs, sv, rv⟩ := s
  obtain ⟨v, hv, B, bc, rfl, sB, h6⟩ := rv.at hi
  have hvl : i < vs.length := by rw [rv.length]; exact hi
  obtain ⟨a, ha, hc⟩ := sv.at hvl
  rw [List.getElem?_eq_getElem hvl] at hv
  have e : xss.getD i [] = xss[i] := by simp [List.getD, hi]
  rw [e] at hv sB h6
  exact ⟨a, B, bc, ha, by rw [hc]; exact hv, sB, h6⟩
theorem klists_spec {A B : Option Addr} {ac bc : Nat} {xss yss : List (List Int)} (sa : SlR h A xss) (sb : SlR h B yss) (hx : xss.length ≤ 1000000000) (hK : K (.bool (decide (xss = yss))) h) : FCall Try.prog f_KLists #[.slice A xss.length ac, .slice B yss.length bc] h K := by
  refine KLists_ok _ _ _ _ _ _ ?_
  unfold KLists
  refine Br.bne (fun h1 => ?_) (fun h1 => ?_)
  · rw [decide_eq_false (by rintro rfl; exact h1 rfl)] at hK; exact hK
  · have hl : xss.length = yss.length := by omega
    refine ⟨fun l h' => ∃ k : Nat, l = [I k] ∧ k ≤ xss.length ∧ h' = h ∧ ∀ (i : Nat), i < k → xss[i]? = yss[i]?, fun l _ => xss.length - (iAt l 0).toNat, ⟨0, rfl, by omega, rfl, fun i hi => by omega⟩, ?_⟩
    rintro i hp ⟨k, hli, hk, rfl, hk2⟩
    obtain rfl : i = (k : Int) := by simpa using hli
    refine Br.dec (fun h2 => ?_) (fun h2 => ?_)
    · obtain ⟨a1, B1, c1, ha1, hc1, s1, l1⟩ := sa.row (i := k) (by omega)
      obtain ⟨a2, B2, c2, ha2, hc2, s2, l2⟩ := sb.row (i := k) (by omega)
      refine ⟨a1, ha1, by omega, by omega, _, _, _, by rw [Int.toNat_natCast, Nat.mul_one]; exact hc1, a2, ha2, by omega, by omega, _, _, _, by rw [Int.toNat_natCast, Nat.mul_one]; exact hc2, ?_⟩
      refine kints_spec s1 s2 (by omega) ⟨_, rfl, Heap.le_refl _, ?_⟩
      refine Br.not (Br.of (fun e => ?_) (fun e => ?_))
      · have e := of_decide_eq_true e
        rw [wi64_id (n := (k : Int) + 1) (by omega) (by omega)]
        refine ⟨⟨k + 1, rfl, by omega, rfl, fun i hi => ?_⟩, by simp only [iAt, List.getElem?_cons_zero]; omega⟩
        by_cases hik : i = k
        · subst hik
          rw [List.getElem?_eq_getElem (by omega), List.getElem?_eq_getElem (by omega), e]
        · exact hk2 i (by omega)
      · have e := of_decide_eq_false e
        rw [decide_eq_false (by rintro rfl; exact e rfl)] at hK; exact hK
    · have : xss = yss := by
        apply List.ext_getElem?
        intro i
        by_cases hi : i < k
        · exact hk2 i hi
        · rw [List.getElem?_eq_none (by omega), List.getElem?_eq_none (by omega)]
      rw [decide_eq_true this] at hK; exact hK
theorem allR_len (n d : Int) : (allR n d).length ≤ 1000000 := by
  unfold allR
  split
  · rename_i h1
    have hr := of_decide_eq_true h1
    split
    · simp
    · rw [preM_len]; exact sum_lenL_le (by omega) (by omega)
  · simp
theorem all_tail {n d : Int} {h0 : Heap} (hl : h.le h0) : FCall Try.prog f_MAll #[I n, I d] h0 (fun r6 hp6 => ∃ (t30a1A : Option Addr) (t30a1n : Nat) (t30a1c : Nat) (t30b1 : Int), r6 = .tuple #[.slice t30a1A t30a1n t30a1c, I t30b1] ∧ FCall Try.prog f_RAll #[I n, I d] hp6 (fun r7 hp7 => ∃ (t36a1A : Option Addr) (t36a1n : Nat) (t36a1c : Nat) (t36b1 : Int), r7 = .tuple #[.slice t36a1A t36a1n t36a1c, I t36b1] ∧ FCall Try.prog f_KLists #[.slice t30a1A t30a1n t30a1c, .slice t36a1A t36a1n t36a1c] hp7 (fun r8 hp8 => ∃ (t411 : Bool), r8 = .bool t411 ∧ Br t411 (Br (t30b1 == t36b1) (FCall Try.prog f_LAwake #[] hp8 (fun r9 hp9 => ∃ (t481 : Bool), r9 = .bool t481 ∧ LawK h (.bool t481) hp9))
  (LawK h (.bool false) hp8))
  (LawK h (.bool false) hp8)))) := by
  refine mall_spec ?_
  intro A c h1 hl1 s1
  refine ⟨_, _, _, _, rfl, rall_spec ?_⟩
  intro A2 c2 h2 hl2 s2
  refine ⟨_, _, _, _, rfl, klists_spec (s1.mono hl2) s2 (Nat.le_trans (allR_len n d) (by decide)) ⟨_, rfl, ?_⟩⟩
  refine Br.of (fun _ => ?_) (fun e => by simp at e)
  exact Br.beq (fun _ => awakeK (Heap.le_trans hl (Heap.le_trans hl1 hl2))) (fun e => absurd rfl e)
theorem law_all {n d : Int} : FCall Try.prog f_LMonomialAll #[I n, I d] h (LawK h) := by
  refine LMonomialAll_ok _ _ ?_
  unfold LMonomialAll
  refine rcount_spec ⟨_, _, rfl, ?_⟩
  exact Br.of (fun _ => Br.dec (fun _ => Br.dec (fun _ => awakeK (Heap.le_refl h)) (fun _ => all_tail (Heap.le_refl h))) (fun _ => all_tail (Heap.le_refl h))) (fun _ => all_tail (Heap.le_refl h))
end
end Go.Proofs.Ytlmdojkanhmioaa
