/-
  Texts of this proof, merged by a program of ours: IvG.
-/
import Derived.Test.YtekkjhmfjplljaaGreatDoorG26
import Derived.Test.YtekkjhmfjplljaaGreatDoorG27
/-
  The law IntervalLattice.
-/
namespace Go.Proofs.YtekkjhmfjplljaaGreatDoor
open Go
set_option maxRecDepth 20000
abbrev R4 := List UInt8 × List UInt8 × Bool × Int
abbrev r4 (x : R4) : Value := .tuple #[ivT x.1 x.2.1, .bool x.2.2.1, I x.2.2.2]
def interR (lo hi lo2 hi2 : List UInt8) : R4 := if ivB lo hi && ivB lo2 hi2 then (if mx (rv lo) (rv lo2) <= mn (rv hi) (rv hi2) then (txtQ (mx (rv lo) (rv lo2)), txtQ (mn (rv hi) (rv hi2)), true, 0) else ([], [], false, 0)) else ([], [], false, 1)
def hullR (lo hi lo2 hi2 : List UInt8) : R3 := if ivB lo hi && ivB lo2 hi2 then (txtQ (mn (rv lo) (rv lo2)), txtQ (mx (rv hi) (rv hi2)), 0) else ([], [], 1)
theorem Sz.mn {m : Nat} {p q : Rat} (hp : Sz m p) (hq : Sz m q) : Sz m (mn p q) := by rcases mn_or p q with e | e <;> rw [e] <;> assumption
theorem Sz.mx {m : Nat} {p q : Rat} (hp : Sz m p) (hq : Sz m q) : Sz m (mx p q) := by rcases mx_or p q with e | e <;> rw [e] <;> assumption
theorem interR_yes {p q r s : Rat} (h : p <= q) (h2 : r <= s) (h3 : mx p r <= mn q s) : interR (txtQ p) (txtQ q) (txtQ r) (txtQ s) = (txtQ (mx p r), txtQ (mn q s), true, 0) := by rw [interR, if_pos (two_true h h2), rv_txt, rv_txt, rv_txt, rv_txt, if_pos h3]
theorem interR_out {p q r s : Rat} (h : p <= q) (h2 : r <= s) (h3 : ¬ mx p r <= mn q s) : interR (txtQ p) (txtQ q) (txtQ r) (txtQ s) = ([], [], false, 0) := by rw [interR, if_pos (two_true h h2), rv_txt, rv_txt, rv_txt, rv_txt, if_neg h3]
theorem interR_no {lo hi lo2 hi2 : List UInt8} (h : ¬ (IvOk lo hi /\ IvOk lo2 hi2)) : interR lo hi lo2 hi2 = ([], [], false, 1) := by rw [interR, two_false h, if_neg (by simp)]
theorem hullR_ok {p q r s : Rat} (h : p <= q) (h2 : r <= s) : hullR (txtQ p) (txtQ q) (txtQ r) (txtQ s) = (txtQ (mn p r), txtQ (mx q s), 0) := by rw [hullR, if_pos (two_true h h2), rv_txt, rv_txt, rv_txt, rv_txt]
theorem hullR_no {lo hi lo2 hi2 : List UInt8} (h : ¬ (IvOk lo hi /\ IvOk lo2 hi2)) : hullR lo hi lo2 hi2 = ([], [], 1) := by rw [hullR, two_false h, if_neg (by simp)]
theorem one_mem {m : Nat} {q : Rat} (h : Sz m q) : ∀ t ∈ [q], Sz m t := fun t ht => by rw [List.mem_singleton.1 ht]; exact h
section
variable {h : Heap} {K : Value -> Heap -> Prop} {m : Nat} {lo hi x lo2 hi2 : List UInt8}
theorem iinterR (gl : Gl h) (ta : Tx m lo) (tb : Tx m hi) (tc : Tx m lo2) (td : Tx m hi2) (hm : m <= 1000000) (hK : K (r4 (interR lo hi lo2 hi2)) h) : FCall Tryz.prog f_IvIntersect #[ivT lo hi, ivT lo2 hi2] h K := by
  refine FCall.pure (IvIntersect_ok _ _ _ _ ?_)
  unfold IvIntersect
  have no : ¬ (IvOk lo hi /\ IvOk lo2 hi2) -> h.le h /\ K (.tuple #[.agg #[.string ({ data := #[] } : ByteArray), .string ({ data := #[] } : ByteArray)], .bool false, I (1 : Int)]) h := by
    intro hn
    rw [interR_no hn] at hK
    exact ⟨Heap.le_refl _, hK⟩
  refine ivalid_spec gl ta tb (by omega) (fun p q e1 e2 hle => ⟨_, rfl, ?_⟩) (fun hn => ⟨_, rfl, no fun x => hn x.1⟩)
  refine ivalid_spec gl tc td (by omega) (fun r s e3 e4 hle2 => ⟨_, rfl, ?_⟩) (fun hn => ⟨_, rfl, no fun x => hn x.2⟩)
  subst e1 e2 e3 e4
  have sp := ta.sz; have sq := tb.sz; have sr := tc.sz; have ss := td.sz
  rw [rv_txt] at sp sq sr ss
  have tail : ∀ hp, h.le hp -> FCall Tryz.prog f_IvValid #[ivT (txtQ (mx p r)) (txtQ (mn q s))] hp (fun r4 hp6 => ∃ (t31 : Bool), r4 = .bool t31 /\ Br (!t31) (h.le hp6 /\ K (.tuple #[.agg #[.string ({ data := #[] } : ByteArray), .string ({ data := #[] } : ByteArray)], .bool false, I (0 : Int)]) h)
      (h.le hp6 /\ K (.tuple #[.agg #[.string (bs (txtQ (mx p r))), .string (bs (txtQ (mn q s)))], .bool true, I (0 : Int)]) h)) := by
    intro hp lh
    refine ivalidR (gl.mono lh) (Tx.of (sp.mx sr) (by omega)) (Tx.of (sq.mn ss) (by omega)) (by omega) ⟨_, rfl, ?_⟩
    by_cases hc : mx p r <= mn q s
    . rw [interR_yes hle hle2 hc] at hK
      rw [ivB_true hc]; exact ⟨lh, hK⟩
    . rw [interR_out hle hle2 hc] at hK
      rw [ivB_false (fun ⟨p', q', f1, f2, f3⟩ => hc (by rw [txtQ_inj f1, txtQ_inj f2]; exact f3))]; exact ⟨lh, hK⟩
  refine ⟨litS_ok tStrings (ls := [txtQ r]) rfl (by simp) rfl ?_, litS_ok tStrings (ls := [txtQ s]) rfl (by simp) rfl ?_⟩
  . intro b1 h1 l1 s1
    refine ⟨_, _, _, rfl, l1, ?_, ?_⟩
    . refine greatest_spec (qs := [r]) (gl.mono l1) rfl s1 sp (one_mem sr) (by omega) (by simp) ⟨_, rfl, Heap.le_refl _, ?_⟩
      refine litS_ok tStrings (ls := [txtQ s]) rfl (by simp) rfl ?_
      intro b2 h2 l2 s2
      have l12 := Heap.le_trans l1 l2
      exact ⟨_, _, _, rfl, l2, least_spec (qs := [s]) (gl.mono l12) rfl s2 sq (one_mem ss) (by omega) (by simp) ⟨_, rfl, Heap.le_refl _, tail h2 l12⟩⟩
    . refine litS_ok tStrings (ls := [txtQ s]) rfl (by simp) rfl ?_
      intro b2 h2 l2 s2
      have l12 := Heap.le_trans l1 l2
      refine ⟨_, _, _, rfl, l2, greatest_spec (qs := [r]) (gl.mono l12) rfl (s1.mono l2) sp (one_mem sr) (by omega) (by simp) ⟨_, rfl, Heap.le_refl _, ?_⟩⟩
      exact least_spec (qs := [s]) (gl.mono l12) rfl s2 sq (one_mem ss) (by omega) (by simp) ⟨_, rfl, Heap.le_refl _, tail h2 l12⟩
  . intro b1 h1 l1 s1
    refine ⟨_, _, _, rfl, l1, litS_ok tStrings (ls := [txtQ r]) rfl (by simp) rfl ?_⟩
    intro b2 h2 l2 s2
    have l12 := Heap.le_trans l1 l2
    refine ⟨_, _, _, rfl, l2, greatest_spec (qs := [r]) (gl.mono l12) rfl s2 sp (one_mem sr) (by omega) (by simp) ⟨_, rfl, Heap.le_refl _, ?_⟩⟩
    exact least_spec (qs := [s]) (gl.mono l12) rfl (s1.mono l2) sq (one_mem ss) (by omega) (by simp) ⟨_, rfl, Heap.le_refl _, tail h2 l12⟩
theorem ihullR (gl : Gl h) (ta : Tx m lo) (tb : Tx m hi) (tc : Tx m lo2) (td : Tx m hi2) (hm : m <= 1000000) (hK : K (r3 (hullR lo hi lo2 hi2)) h) : FCall Tryz.prog f_IvHull #[ivT lo hi, ivT lo2 hi2] h K := by
  refine FCall.pure (IvHull_ok _ _ _ _ ?_)
  unfold IvHull
  have no : ¬ (IvOk lo hi /\ IvOk lo2 hi2) -> h.le h /\ K (.tuple #[.agg #[.string ({ data := #[] } : ByteArray), .string ({ data := #[] } : ByteArray)], I (1 : Int)]) h := by
    intro hn
    rw [hullR_no hn] at hK
    exact ⟨Heap.le_refl _, hK⟩
  refine ivalid_spec gl ta tb (by omega) (fun p q e1 e2 hle => ⟨_, rfl, ?_⟩) (fun hn => ⟨_, rfl, no fun x => hn x.1⟩)
  refine ivalid_spec gl tc td (by omega) (fun r s e3 e4 hle2 => ⟨_, rfl, ?_⟩) (fun hn => ⟨_, rfl, no fun x => hn x.2⟩)
  subst e1 e2 e3 e4
  have sp := ta.sz; have sq := tb.sz; have sr := tc.sz; have ss := td.sz
  rw [rv_txt] at sp sq sr ss
  rw [hullR_ok hle hle2] at hK
  refine ⟨litS_ok tStrings (ls := [txtQ r]) rfl (by simp) rfl ?_, litS_ok tStrings (ls := [txtQ s]) rfl (by simp) rfl ?_⟩
  . intro b1 h1 l1 s1
    refine ⟨_, _, _, rfl, l1, ?_, ?_⟩
    . refine least_spec (qs := [r]) (gl.mono l1) rfl s1 sp (one_mem sr) (by omega) (by simp) ⟨_, rfl, Heap.le_refl _, ?_⟩
      refine litS_ok tStrings (ls := [txtQ s]) rfl (by simp) rfl ?_
      intro b2 h2 l2 s2
      have l12 := Heap.le_trans l1 l2
      exact ⟨_, _, _, rfl, l2, greatest_spec (qs := [s]) (gl.mono l12) rfl s2 sq (one_mem ss) (by omega) (by simp) ⟨_, rfl, Heap.le_refl _, l12, hK⟩⟩
    . refine litS_ok tStrings (ls := [txtQ s]) rfl (by simp) rfl ?_
      intro b2 h2 l2 s2
      have l12 := Heap.le_trans l1 l2
      refine ⟨_, _, _, rfl, l2, least_spec (qs := [r]) (gl.mono l12) rfl (s1.mono l2) sp (one_mem sr) (by omega) (by simp) ⟨_, rfl, Heap.le_refl _, ?_⟩⟩
      exact greatest_spec (qs := [s]) (gl.mono l12) rfl s2 sq (one_mem ss) (by omega) (by simp) ⟨_, rfl, Heap.le_refl _, l12, hK⟩
  . intro b1 h1 l1 s1
    refine ⟨_, _, _, rfl, l1, litS_ok tStrings (ls := [txtQ r]) rfl (by simp) rfl ?_⟩
    intro b2 h2 l2 s2
    have l12 := Heap.le_trans l1 l2
    refine ⟨_, _, _, rfl, l2, least_spec (qs := [r]) (gl.mono l12) rfl s2 sp (one_mem sr) (by omega) (by simp) ⟨_, rfl, Heap.le_refl _, ?_⟩⟩
    exact greatest_spec (qs := [s]) (gl.mono l12) rfl (s1.mono l2) sq (one_mem ss) (by omega) (by simp) ⟨_, rfl, Heap.le_refl _, l12, hK⟩
theorem rfinterR (ta : Tx m lo) (tb : Tx m hi) (tc : Tx m lo2) (td : Tx m hi2) (hm : m <= 1000000) (hK : ∀ h', h.le h' -> K (r4 (interR lo hi lo2 hi2)) h') : FCall Tryz.prog f_RfIntersect #[ivT lo hi, ivT lo2 hi2] h K := by
  refine RfIntersect_ok _ _ _ _ ?_
  unfold RfIntersect
  refine rfpair_spec ta tb tc td (by omega) ?_ ?_
  . rintro p q r s rfl rfl hle rfl rfl hle2 w1 w2 w3 w4 h1 l1 i1 i2 i3 i4
    have sp := ta.sz; have sq := tb.sz; have sr := tc.sz; have ss := td.sz
    rw [rv_txt] at sp sq sr ss
    have tail : ∀ {u v : QV} {x y : Rat}, NQ h1 u x -> NQ h1 v y -> Sz m x -> Sz m y -> x = mx p r -> y = mn q s -> FCall Tryz.prog f_NRCmp #[u.v, v.v] h1 (fun r3 hp3 => ∃ (t42 : Int), r3 = I t42 /\ Br (decide (t42 > (0 : Int))) (K (.tuple #[.agg #[.string ({ data := #[] } : ByteArray), .string ({ data := #[] } : ByteArray)], .bool false, I (0 : Int)]) hp3)
        (FCall Tryz.prog f_RfWrite #[iv8 u v] hp3 (fun r4 hp4 => ∃ (t460 : ByteArray) (t461 : ByteArray), r4 = .agg #[.string t460, .string t461] /\ K (.tuple #[.agg #[.string t460, .string t461], .bool true, I (0 : Int)]) hp4))) := by
      intro u v x y iu iv sx sy ex ey
      refine rcmp_spec iu iv sx sy (by omega) ⟨_, rfl, Br.dec (fun e => ?_) (fun e => ?_)⟩
      . have hc : ¬ mx p r <= mn q s := by rw [<- ex, <- ey]; have := sub_gt0.1 e; grind
        have := hK h1 l1
        rw [interR_out hle hle2 hc] at this; exact this
      . have hc : mx p r <= mn q s := by rw [<- ex, <- ey]; have : ¬ y < x := fun g => e (sub_gt0.2 g); grind
        have := hK h1 l1
        rw [interR_yes hle hle2 hc, <- ex, <- ey] at this
        exact rfwrite_spec iu iv sx sy (by omega) ⟨_, _, rfl, this⟩
    refine ⟨_, _, _, _, _, _, _, _, _, _, _, _, _, _, _, _, _, _, _, _, _, _, _, _, _, _, _, _, _, _, _, _, _, rfl, rcmp_spec i3 i1 sr sp (by omega) ⟨_, rfl, Br.dec (fun e1 => ?_) (fun e1 => ?_)⟩⟩
    . have g1 : r = mx p r := by rw [mx, if_pos (sub_gt0.1 e1)]
      refine rcmp_spec i4 i2 ss sq (by omega) ⟨_, rfl, Br.dec (fun e2 => ?_) (fun e2 => ?_)⟩
      . exact tail i3 i4 sr ss g1 (by rw [mn, if_pos (sub_lt0.1 e2)])
      . exact tail i3 i2 sr sq g1 (by rw [mn, if_neg (fun g => e2 (sub_lt0.2 g))])
    . have g1 : p = mx p r := by rw [mx, if_neg (fun g => e1 (sub_gt0.2 g))]
      refine rcmp_spec i4 i2 ss sq (by omega) ⟨_, rfl, Br.dec (fun e2 => ?_) (fun e2 => ?_)⟩
      . exact tail i1 i4 sp ss g1 (by rw [mn, if_pos (sub_lt0.1 e2)])
      . exact tail i1 i2 sp sq g1 (by rw [mn, if_neg (fun g => e2 (sub_lt0.2 g))])
  . intro hn w1 w2 w3 w4 h1 l1
    have := hK h1 l1
    rw [interR_no hn] at this
    exact ⟨_, _, _, _, _, _, _, _, _, _, _, _, _, _, _, _, _, _, _, _, _, _, _, _, _, _, _, _, _, _, _, _, _, rfl, this⟩
theorem rfhullR (ta : Tx m lo) (tb : Tx m hi) (tc : Tx m lo2) (td : Tx m hi2) (hm : m <= 1000000) (hK : ∀ h', h.le h' -> K (r3 (hullR lo hi lo2 hi2)) h') : FCall Tryz.prog f_RfHull #[ivT lo hi, ivT lo2 hi2] h K := by
  refine RfHull_ok _ _ _ _ ?_
  unfold RfHull
  refine rfpair_spec ta tb tc td (by omega) ?_ ?_
  . rintro p q r s rfl rfl hle rfl rfl hle2 w1 w2 w3 w4 h1 l1 i1 i2 i3 i4
    have sp := ta.sz; have sq := tb.sz; have sr := tc.sz; have ss := td.sz
    rw [rv_txt] at sp sq sr ss
    refine ⟨_, _, _, _, _, _, _, _, _, _, _, _, _, _, _, _, _, _, _, _, _, _, _, _, _, _, _, _, _, _, _, _, _, rfl, litQ_ok (ws := [w1, w2, w3, w4]) (ps := [p, q, r, s]) rfl ?_ rfl (by simp) rfl ?_⟩
    . intro i g1 g2
      match i with
      | 0 => exact i1
      | 1 => exact i2
      | 2 => exact i3
      | 3 => exact i4
      | i + 4 => simp at g1; omega
    intro bb h2 l2 sl
    refine ⟨_, _, _, rfl, rfspan_spec (m := m) sl rfl sp (fun t ht => ?_) (by omega) (by simp) ?_⟩
    . simp only [List.mem_cons, List.not_mem_nil, or_false] at ht
      rcases ht with rfl | rfl | rfl <;> assumption
    intro v1 v2 k1 k2
    obtain ⟨e1, e2⟩ := hull_eq hle hle2
    rw [e1] at k1
    rw [e2] at k2
    have := hK h2 (Heap.le_trans l1 l2)
    rw [hullR_ok hle hle2] at this
    exact ⟨_, _, _, _, _, _, _, _, _, _, _, _, _, _, _, _, rfl, rfwrite_spec k1 k2 (sp.mn sr) (sq.mx ss) (by omega) ⟨_, _, rfl, this⟩⟩
  . intro hn w1 w2 w3 w4 h1 l1
    have := hK h1 l1
    rw [hullR_no hn] at this
    exact ⟨_, _, _, _, _, _, _, _, _, _, _, _, _, _, _, _, _, _, _, _, _, _, _, _, _, _, _, _, _, _, _, _, _, rfl, this⟩
theorem law_lattice (gl : Gl h) : FCall Tryz.prog f_LIntervalLattice #[ivT lo hi, ivT lo2 hi2] h (LawK h) := by
  refine LIntervalLattice_ok _ _ _ _ ?_
  unfold LIntervalLattice
  refine litIv_ok (l := [(lo, hi), (lo2, hi2)]) rfl (by simp) rfl ?_
  intro b h1 l1 sl
  refine ⟨_, _, _, rfl, ?_⟩
  have gl1 := gl.mono l1
  refine lshort_spec sl rfl (by simp) (fun hs => ⟨_, rfl, ?_⟩) (fun hs => ⟨_, rfl, awake_spec gl1 ⟨_, rfl, rfl, l1⟩⟩)
  have b1 := hs (lo, hi) (by simp)
  have b2 := hs (lo2, hi2) (by simp)
  have ta : Tx 80 lo := Tx.short (k := 20) b1.1 (by omega) (by omega)
  have tb : Tx 80 hi := Tx.short (k := 20) b1.2 (by omega) (by omega)
  have tc : Tx 80 lo2 := Tx.short (k := 20) b2.1 (by omega) (by omega)
  have td : Tx 80 hi2 := Tx.short (k := 20) b2.2 (by omega) (by omega)
  refine iinterR gl1 ta tb tc td (by omega) ⟨_, _, _, _, rfl, ?_⟩
  refine rfinterR ta tb tc td (by omega) fun h2 l2 => ⟨_, _, _, _, rfl, ?_⟩
  refine ihullR (gl1.mono l2) ta tb tc td (by omega) ⟨_, _, _, rfl, ?_⟩
  refine rfhullR ta tb tc td (by omega) fun h3 l3 => ⟨_, _, _, rfl, ?_⟩
  refine Br.t (eq2 _ _) (Br.t (by simp) (Br.t (by simp) (Br.t (eq2 _ _) (Br.t (by simp) ?_))))
  have l23 := Heap.le_trans l2 l3
  exact awake_spec (gl1.mono l23) ⟨_, rfl, rfl, Heap.le_trans l1 l23⟩
end
end Go.Proofs.YtekkjhmfjplljaaGreatDoor
