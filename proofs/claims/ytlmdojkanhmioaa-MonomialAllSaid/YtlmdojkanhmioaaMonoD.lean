/-
  Lists of exponent vectors: All, the reference's All, and their equality.
-/
import Derived.Test.YtlmdojkanhmioaaMonoC
namespace Go.Proofs.Ytlmdojkanhmioaa
open Go

/-! ### memory: a row that is made beside a growing one -/
theorem Priv.grow {h g h2 : Heap} {e : TypeId} {s : Nat} {A : Option Addr} {n c : Nat} {xs : List Value} (p : Priv h g e s A n c xs) (hl : h.le h2) : ∃ g2, g.le g2 ∧ Priv h2 g2 e s A n c xs ∧ ∀ k, h k = none → g2 k = h2 k := by
  rcases p with ⟨h1, hnc, ⟨hc0, rfl⟩ | ⟨b, arr, hA, hgb, rfl, har⟩⟩
  · exact ⟨h2, hl, ⟨h1, hnc, .inl ⟨hc0, rfl⟩⟩, fun _ _ => rfl⟩
  · have hb2 := hl b _ (Heap.put_same g b _)
    refine ⟨fun k => if k = b then none else h2 k, fun k o e => ?_, ⟨h1, hnc, .inr ⟨b, arr, hA, if_pos rfl, ?_, har⟩⟩, fun k hk => ?_⟩
    · have hkb : k ≠ b := by rintro rfl; rw [hgb] at e; cases e
      show (if k = b then none else h2 k) = some o
      rw [if_neg hkb]
      exact hl k o (by rw [Heap.put_other _ _ hkb]; exact e)
    · funext k
      by_cases hkb : k = b
      · rw [hkb, Heap.put_same, hb2]
      · rw [Heap.put_other _ _ hkb, if_neg hkb]
    · have hkb : k ≠ b := by rintro rfl; rw [Heap.put_same] at hk; cases hk
      exact if_neg hkb
theorem SlI.same_block {k : IntKind} {h h' : Heap} {a : Addr} {xs : List Int} (e : h' a.block = h a.block) (s : SlI k h (some a) xs) : SlI k h' (some a) xs := by
  rcases s with s | ⟨a', ea, hc⟩
  · exact .inl s
  · cases ea
    refine .inr ⟨a, rfl, fun i v hv => ?_⟩
    have := hc i v hv
    unfold Heap.cell? at this ⊢
    rw [add_block] at this ⊢
    rw [e]; exact this
theorem Priv.freshI {k : IntKind} {h h2 g2 g3 : Heap} {e : TypeId} {A : Option Addr} {n c : Nat} {xs : List Int} (p : Priv h2 g2 e 1 A n c (xs.map (Value.int k))) (hl : h.le g2) (hg : ∀ k, h k = none → g3 k = h2 k) : SlI k g3 A xs := by
  have hs : SlI k h2 A xs := p.slV
  rcases p.2.2 with ⟨hc0, _⟩ | ⟨b, arr, hA, hgb, hh, _⟩
  · have h1 := p.1
    have h2 := p.2.1
    have : xs = [] := List.eq_nil_of_length_eq_zero (by simp at h1; omega)
    subst this; exact SlI.nil
  · subst hA
    refine SlI.same_block (hg b ?_) hs
    cases x : h b with
    | none => rfl
    | some o => have := hl b o x; rw [hgb] at this; cases this
theorem push_ok {P : Program} {t e ty : TypeId} {z : Value} {bytes : Nat} (st : SliceT P t e z 1 bytes) {h g : Heap} {A : Option Addr} {n c : Nat} {xs : List Value} (p : Priv h g e 1 A n c xs) {v : Value} (hv : v.cells = #[v]) (hv1 : oneC v = true)
    (hb : (2 * (n + 1) + 192) * bytes ≤ 281474976710656) (hm : n + 1 ≤ 9223372036854775807) {K : Option Addr → Nat → Nat → Heap → Prop}
    (x : ∀ A' c' h' g', g.le g' → Priv h' g' e 1 A' (n + 1) c' (xs ++ [v]) → K A' (n + 1) c' h') :
    wpH P (Instr.buildSlice t 1 #[(0, v)]) (fun v' hp => ∃ (B : Option Addr) (m d : Nat), v' = .slice B m d ∧ wpH P (Builtin.append_ #[t, t] ty #[.slice A n c, .slice B m d]) (fun v1 hp1 => ∃ (A' : Option Addr) (n' c' : Nat), v1 = .slice A' n' c' ∧ K A' n' c' hp1) hp) h := by
  refine lit1_ok st hv ?_
  intro nb hnb
  refine ⟨_, _, _, rfl, ?_⟩
  refine append_ok st (p.put hnb _) (m := 1) (ys := [v]) rfl (.inr ⟨_, rfl, ?_⟩) (by simpa using hv1) hb hm ?_
  · intro j u hj
    cases j with
    | zero => simp at hj; subst hj; rw [add_at, Heap.cell_put]; rfl
    | succ j => simp at hj
  · intro A' c2 h2 g2 hg2 hp2
    refine ⟨_, _, _, rfl, x A' c2 h2 g2 (Heap.le_trans (Heap.le_put _ ?_) hg2) hp2⟩
    cases hgn : g nb with
    | none => rfl
    | some o => have := p.le nb o hgn; rw [hnb] at this; cases this

def RowV (g : Heap) (v : Value) (xs : List Int) : Prop := ∃ A c, v = .slice A xs.length c ∧ SlI .i64 g A xs ∧ xs.length ≤ 6
def RowsV (g : Heap) : List Value → List (List Int) → Prop
  | [], [] => True
  | v :: vs, xs :: xss => RowV g v xs ∧ RowsV g vs xss
  | _, _ => False
theorem RowV.mono {g g' : Heap} (hl : g.le g') {v : Value} {xs : List Int} (r : RowV g v xs) : RowV g' v xs := by
  obtain ⟨A, c, h1, h2, h3⟩ := r; exact ⟨A, c, h1, h2.mono hl, h3⟩
theorem RowsV.mono {g g' : Heap} (hl : g.le g') : ∀ {vs : List Value} {xss : List (List Int)}, RowsV g vs xss → RowsV g' vs xss
  | [], [], _ => trivial
  | _ :: _, _ :: _, ⟨h1, h2⟩ => ⟨h1.mono hl, RowsV.mono hl h2⟩
theorem RowsV.append {g : Heap} : ∀ {vs us : List Value} {xss yss : List (List Int)}, RowsV g vs xss → RowsV g us yss → RowsV g (vs ++ us) (xss ++ yss)
  | [], _, [], _, _, h => h
  | _ :: _, _, _ :: _, _, ⟨h1, h2⟩, h => ⟨h1, RowsV.append h2 h⟩
theorem RowsV.length {g : Heap} : ∀ {vs : List Value} {xss : List (List Int)}, RowsV g vs xss → vs.length = xss.length
  | [], [], _ => rfl
  | _ :: _, _ :: _, ⟨_, h2⟩ => by simp [RowsV.length h2]
theorem RowsV.at {g : Heap} : ∀ {vs : List Value} {xss : List (List Int)} {i : Nat}, RowsV g vs xss → i < xss.length → ∃ v, vs[i]? = some v ∧ RowV g v (xss.getD i [])
  | [], [], _, _, h => by simp at h
  | v :: _, xs :: _, 0, ⟨h1, _⟩, _ => ⟨v, by simp, by simpa using h1⟩
  | _ :: _, _ :: _, i + 1, ⟨_, h2⟩, h => by simpa using RowsV.at (i := i) h2 (by simpa using h)
/-- a growing list of vectors -/
def PrivR (h g : Heap) (A : Option Addr) (c : Nat) (xss : List (List Int)) : Prop := ∃ vs, Priv h g ty_tLists_e 1 A xss.length c vs ∧ RowsV g vs xss
/-- a list of vectors that is read -/
def SlR (h : Heap) (A : Option Addr) (xss : List (List Int)) : Prop := ∃ vs, SlV h A vs ∧ RowsV h vs xss
theorem PrivR.slR {h g : Heap} {A : Option Addr} {c : Nat} {xss : List (List Int)} (p : PrivR h g A c xss) : SlR h A xss := by
  obtain ⟨vs, h1, h2⟩ := p; exact ⟨vs, h1.slV, h2.mono h1.le⟩
theorem PrivR.le {h g : Heap} {A : Option Addr} {c : Nat} {xss : List (List Int)} (p : PrivR h g A c xss) : g.le h := by
  obtain ⟨vs, h1, h2⟩ := p; exact h1.le
theorem PrivR.grow {h g h2 : Heap} {A : Option Addr} {c : Nat} {xss : List (List Int)} (p : PrivR h g A c xss) (hl : h.le h2) : ∃ g2, g.le g2 ∧ PrivR h2 g2 A c xss ∧ ∀ k, h k = none → g2 k = h2 k := by
  obtain ⟨vs, p1, r⟩ := p
  obtain ⟨g2, a, b, c⟩ := p1.grow hl
  exact ⟨g2, a, ⟨vs, b, r.mono a⟩, c⟩
theorem pushR_ok {P : Program} (st : SliceT P ty_tLists ty_tLists_e (.slice none 0 0) 1 24) {ty : TypeId} {h g : Heap} {A : Option Addr} {c : Nat} {xss : List (List Int)} (p : PrivR h g A c xss) {B : Option Addr} {xs : List Int} {n d : Nat} (hn : n = xs.length) (s : SlI .i64 g B xs) (hx : xs.length ≤ 6) (hb : xss.length ≤ 1000000) {K : Option Addr → Nat → Nat → Heap → Prop}
    (x : ∀ A' c' h' g', g.le g' → PrivR h' g' A' c' (xss ++ [xs]) → K A' (xss ++ [xs]).length c' h') :
    wpH P (Instr.buildSlice ty_tLists 1 #[(0, .slice B n d)]) (fun v' hp => ∃ (B : Option Addr) (m d : Nat), v' = .slice B m d ∧ wpH P (Builtin.append_ #[ty_tLists, ty_tLists] ty #[.slice A xss.length c, .slice B m d]) (fun v1 hp1 => ∃ (A' : Option Addr) (n' c' : Nat), v1 = .slice A' n' c' ∧ K A' n' c' hp1) hp) h := by
  obtain ⟨vs, p1, r⟩ := p
  refine push_ok st p1 rfl rfl (by omega) (by omega) ?_
  intro A' c' h' g' hg hp
  have := x A' c' h' g' hg ⟨vs ++ [.slice B n d], by rw [List.length_append]; exact hp, (r.mono hg).append ⟨⟨B, d, by rw [hn], s.mono hg, hx⟩, trivial⟩⟩
  rw [List.length_append] at this; exact this

/-! ### plain -/
def monoL : Nat → Nat → List (List Int)
  | 0, d => if d = 0 then [[]] else []
  | n + 1, d => (List.range (d + 1)).flatMap fun j => (monoL n j).map (· ++ [((d : Int) - j)])
def lenL : Nat → Nat → Nat
  | 0, d => if d = 0 then 1 else 0
  | n + 1, d => ((List.range (d + 1)).map (lenL n)).sum
theorem monoL_len : ∀ n d, (monoL n d).length = lenL n d
  | 0, d => by simp only [monoL, lenL]; split <;> rfl
  | n + 1, d => by
    simp only [monoL, lenL, List.length_flatMap, List.length_map]
    congr 1
    apply List.map_congr_left
    intro j _; exact monoL_len n j
theorem monoL_row : ∀ n d xs, xs ∈ monoL n d → xs.length = n
  | 0, d, xs, h => by
    simp only [monoL] at h
    split at h
    · simp at h; subst h; rfl
    · cases h
  | n + 1, d, xs, h => by
    simp only [monoL, List.mem_flatMap, List.mem_map] at h
    obtain ⟨j, _, ys, hy, rfl⟩ := h
    simp [monoL_row n j ys hy]
def allM (n d : Nat) : List (List Int) := (List.range (d + 1)).flatMap (monoL n)
theorem lenL_bound : ∀ n : Fin 7, ((List.range 25).map (lenL n)).sum ≤ 1000000 := by decide +kernel
theorem sum_range_le (f : Nat → Nat) {a b : Nat} (h : a ≤ b) : ((List.range a).map f).sum ≤ ((List.range b).map f).sum := by
  induction b with
  | zero => have : a = 0 := by omega
            subst this; exact Nat.le_refl _
  | succ b ih =>
    by_cases e : a = b + 1
    · subst e; exact Nat.le_refl _
    · have := ih (by omega)
      rw [List.range_succ, List.map_append, List.sum_append]; omega
theorem sum_lenL_le {n k : Nat} (hn : n ≤ 6) (hk : k ≤ 25) : ((List.range k).map (lenL n)).sum ≤ 1000000 :=
  Nat.le_trans (sum_range_le (lenL n) hk) (lenL_bound ⟨n, by omega⟩)
theorem lenL_le {n d : Nat} (hn : n ≤ 6) (hd : d ≤ 24) : lenL n d ≤ 1000000 := by
  have := sum_lenL_le (k := d + 1) hn (by omega)
  rw [List.range_succ, List.map_append, List.sum_append] at this
  simp at this; omega
/-- the first k rounds of the loop over the last exponent -/
def roundsL (n d k : Nat) (tail : List Int) : List (List Int) := (List.range k).flatMap fun j => (monoL n j).map (· ++ (((d : Int) - j) :: tail))
theorem roundsL_all (n d : Nat) (tail : List Int) : roundsL n d (d + 1) tail = (monoL (n + 1) d).map (· ++ tail) := by
  simp only [roundsL, monoL, List.map_flatMap, List.map_map]
  congr 1
  funext j
  apply List.map_congr_left
  intro xs _; simp
theorem roundsL_succ (n d k : Nat) (tail : List Int) : roundsL n d (k + 1) tail = roundsL n d k tail ++ (monoL n k).map (· ++ (((d : Int) - k) :: tail)) := by
  simp [roundsL, List.range_succ]
theorem roundsL_len (n d k : Nat) (tail : List Int) : (roundsL n d k tail).length = ((List.range k).map (lenL n)).sum := by
  simp only [roundsL, List.length_flatMap, List.length_map]
  congr 1
  apply List.map_congr_left
  intro j _; exact monoL_len n j

section
variable {h g : Heap} {K : Value → Heap → Prop}

theorem appdeg_spec (n : Nat) : n ≤ 6 → ∀ (d : Nat) (tail : List Int) (xss : List (List Int)) (R T : Option Addr) (rc tc : Nat) (h g : Heap) (K : Value → Heap → Prop), d ≤ 24 → n + tail.length ≤ 6 → xss.length + lenL n d ≤ 1000000 → PrivR h g R rc xss → SlI .i64 g T tail →
    (∀ R' c' h' g', g.le g' → PrivR h' g' R' c' (xss ++ (monoL n d).map (· ++ tail)) → K (.slice R' (xss ++ (monoL n d).map (· ++ tail)).length c') h') →
    FCall Try.prog f_MAppendDegree #[.slice R xss.length rc, I n, I d, .slice T tail.length tc] h K := by
  induction n with
  | zero =>
    intro _ d tail xss R T rc tc h g K hd ht hlen p s hK
    refine MAppendDegree_ok _ _ _ _ _ _ _ _ ?_
    unfold MAppendDegree
    show Br _ _ _
    refine Br.beq (fun _ => ?_) (fun h0 => absurd rfl h0)
    refine Br.dec (fun h1 => ?_) (fun h1 => ?_)
    · have e : monoL 0 d = [] := by simp only [monoL]; rw [if_neg (by omega)]
      have := hK R rc h g (Heap.le_refl g) (by rw [e]; simpa using p)
      rw [e] at this; simpa using this
    · have hd0 : d = 0 := by omega
      subst hd0
      refine lit0_ok tInts ?_
      intro nb hnb
      refine ⟨_, _, _, rfl, ?_⟩
      have pn : Priv (h.put nb (.cells #[] ty_tInts_e)) (h.put nb (.cells #[] ty_tInts_e)) ty_tInts_e 1 (some ⟨nb, 0, none⟩) 0 0 [] := Priv.nil _ _ _ _
      have sh := (s.mono p.le).mono (Heap.le_put (.cells #[] ty_tInts_e) hnb)
      refine append_ok tInts pn (m := tail.length) (ys := tail.map I) (by simp) ?_ (by simp [oneC]) (by omega) (by omega) ?_
      · rcases sh with hnil | hc
        · exact .inl hnil
        · exact .inr hc
      intro A' c' h2 g2 hg2 p2
      refine ⟨_, _, _, rfl, ?_⟩
      have hl2 : h.le g2 := Heap.le_trans (Heap.le_put _ hnb) hg2
      obtain ⟨g3, hg3, p3, hk3⟩ := p.grow (Heap.le_trans hl2 p2.le)
      have s3 : SlI .i64 g3 A' tail := Priv.freshI (by simpa using p2) hl2 hk3
      refine pushR_ok tLists p3 (Nat.zero_add _) s3 (by omega) (by simp [lenL] at hlen; omega) ?_
      intro A4 c4 h4 g4 hg4 p4
      have e : (monoL 0 0).map (· ++ tail) = [tail] := by simp [monoL]
      have := hK A4 c4 h4 g4 (Heap.le_trans hg3 hg4) (by rw [e]; exact p4)
      rw [e] at this; exact this
  | succ n ih =>
    intro hn d tail xss R T rc tc h g K hd ht hlen p s hK
    have hlen' : xss.length + ((List.range (d + 1)).map (lenL n)).sum ≤ 1000000 := hlen
    refine MAppendDegree_ok _ _ _ _ _ _ _ _ ?_
    unfold MAppendDegree
    refine Br.beq (fun h0 => by omega) (fun _ => ?_)
    refine ⟨fun l h' => ∃ (k : Nat) (R' : Option Addr) (c' : Nat) (g' : Heap), l = [.slice R' (xss ++ roundsL n d k tail).length c', I ((d : Int) - k)] ∧ k ≤ d + 1 ∧ g.le g' ∧ PrivR h' g' R' c' (xss ++ roundsL n d k tail), fun l _ => (iAt l 1 + 1).toNat, ⟨0, R, rc, g, by simp [roundsL], by omega, Heap.le_refl g, by simpa [roundsL] using p⟩, ?_⟩
    rintro R1 n1 c1 last hp ⟨k, R', c', g', hl, hk, hg, p1⟩
    obtain ⟨⟨rfl, rfl, rfl⟩, rfl⟩ : (R1 = R' ∧ n1 = (xss ++ roundsL n d k tail).length ∧ c1 = c') ∧ last = (d : Int) - k := by simpa using hl
    refine Br.dec (fun h1 => ?_) (fun h1 => ?_)
    · refine lit1_ok tInts rfl ?_
      intro nb hnb
      refine ⟨_, _, _, rfl, ?_⟩
      have pn : Priv (hp.put nb (.cells #[I ((d : Int) - k)] ty_tInts_e)) hp ty_tInts_e 1 (some ⟨nb, 0, none⟩) 1 1 [I ((d : Int) - k)] := ⟨rfl, Nat.le_refl _, .inr ⟨nb, [I ((d : Int) - k)], rfl, hnb, rfl, rfl, rfl⟩⟩
      have sh := ((s.mono hg).mono p1.le).mono (Heap.le_put (.cells #[I ((d : Int) - k)] ty_tInts_e) hnb)
      refine append_ok tInts pn (m := tail.length) (ys := tail.map I) (by simp) ?_ (by simp [oneC]) (by omega) (by omega) ?_
      · rcases sh with hnil | hc
        · exact .inl hnil
        · exact .inr hc
      intro A2 c2 h2 g2 hg2 p2
      refine ⟨_, _, _, rfl, ?_⟩
      obtain ⟨g3, hg3, p3, hk3⟩ := p1.grow (Heap.le_trans hg2 p2.le)
      have s3 : SlI .i64 g3 A2 (((d : Int) - k) :: tail) := Priv.freshI (by simpa using p2) hg2 hk3
      have e1 : wi64 (((n + 1 : Nat) : Int) - 1) = (n : Int) := by rw [wi64_id (by omega) (by omega)]; omega
      have e2 : wi64 ((d : Int) - ((d : Int) - k)) = (k : Int) := by rw [wi64_id (by omega) (by omega)]; omega
      have e3 : wi64 ((d : Int) - k - 1) = (d : Int) - (k + 1 : Nat) := by rw [wi64_id (by omega) (by omega)]; omega
      rw [e1, e2, e3]
      have hr := roundsL_len n d (k + 1) tail
      have hle := sum_range_le (lenL n) (show k + 1 ≤ d + 1 by omega)
      have el : 1 + tail.length = (((d : Int) - k) :: tail).length := by simp [Nat.add_comm]
      rw [el]
      have hsum : ((List.range (k + 1)).map (lenL n)).sum = ((List.range k).map (lenL n)).sum + lenL n k := by
        rw [List.range_succ, List.map_append, List.sum_append]; simp
      refine ih (by omega) k _ _ _ _ _ _ _ _ _ (by omega) (by simp; omega) ?_ p3 s3 ?_
      · rw [List.length_append, roundsL_len]; omega
      · intro R5 c5 h5 g5 hg5 p5
        rw [List.append_assoc, ← roundsL_succ] at p5 ⊢
        exact ⟨_, _, _, rfl, ⟨k + 1, R5, c5, g5, rfl, by omega, Heap.le_trans hg (Heap.le_trans hg3 hg5), p5⟩, by simp only [iAt, List.getElem?_cons_succ, List.getElem?_cons_zero]; omega⟩
    · have hkd : k = d + 1 := by omega
      subst hkd
      have := hK R1 c1 hp g' hg (by rw [← roundsL_all]; exact p1)
      rw [← roundsL_all] at this; exact this

end
end Go.Proofs.Ytlmdojkanhmioaa
