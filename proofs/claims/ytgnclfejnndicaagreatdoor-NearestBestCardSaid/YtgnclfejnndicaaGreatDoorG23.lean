/-
  Texts of this proof, merged by a program of ours: NearD, NearE, CardA, NearF, NearG, NearI, NearL.
-/
import Derived.Test.YtgnclfejnndicaaGreatDoorG21
import Derived.Test.YtgnclfejnndicaaGreatDoorG22
import Derived.Test.YtgnclfejnndicaaGreatDoorRows
import Derived.Below
import Derived.LaidLaws
import Derived.Lib.LaidTab
/-
  simplest: the program's and the reference's.
-/
namespace Go.Proofs.YtgnclfejnndicaaGreatDoor
open Go
set_option maxRecDepth 20000
theorem sgnQ_lt {q : Rat} : q.num.sign < 0 ↔ q < 0 := by rw [Int.sign_neg_iff, Rat.lt_iff]; simp
theorem sgnQ_gt {q : Rat} : 0 < q.num.sign ↔ 0 < q := by rw [Int.sign_pos_iff, Rat.lt_iff]; simp
theorem sgnQ_le {q : Rat} : q.num.sign ≤ 0 ↔ q ≤ 0 := by rw [← Rat.not_lt, ← sgnQ_gt]; omega
theorem txtI_eq (z : Int) : txtI z = txtQ (z : Rat) := by rw [txtQ_int (by simp), Rat.num_intCast]
theorem step_sz {m : Nat} {q : Rat} {f : Int} (h : Sz m q) (h1 : (f : Rat) < q) (h2 : q < f + 1) : Sz m (q - f) ∧ Sz m (q - f)⁻¹ := by
  obtain ⟨a, b, c, _⟩ := cf_step h1 h2
  obtain ⟨d, e⟩ := sub_int q f
  have hd := h.den
  refine ⟨⟨?_, by rw [e]; exact hd⟩, ⟨by rw [a]; exact hd, ?_⟩⟩
  · rw [d, ← b]; exact hd.le (by rw [Int.natAbs_natCast, Int.natAbs_natCast]; omega)
  · exact hd.le (by rw [Int.natAbs_natCast, Int.natAbs_natCast]; omega)
theorem floor_sz {m : Nat} {q : Rat} (h : Sz m q) (hm : 1 ≤ m) : Sz m (q.floor : Rat) := Sz.int (floor_zb h) hm
theorem ceil_zb {m : Nat} {q : Rat} (h : Sz m q) : ZB m q.ceil := by
  rw [Rat.ceil_eq_neg_floor_neg]; exact (floor_zb h.neg).neg
theorem ceil_sz {m : Nat} {q : Rat} (h : Sz m q) (hm : 1 ≤ m) : Sz m (q.ceil : Rat) := Sz.int (ceil_zb h) hm
section
variable {h : Heap} {K : Value → Heap → Prop} {m : Nat} {a b w : QV} {p q : Rat}
theorem einverse_spec (gl : Gl h) (hq : Sz m q) (hm1 : 1 ≤ m) (hm : m ≤ 283) (h0 : q ≠ 0) (hK : K (.string (bs (txtQ q⁻¹))) h) : FCall Tryz.prog f_EInverse #[.string (bs (txtQ q))] h K := by
  refine EInverse_ok _ ?_
  unfold EInverse
  have e1 : txtQ 1 = [49] := by simp [txtQ, txtI, digs, dd_pos, dd_zero, dch]
  show FCall _ _ #[.string (bs [49]), _] _ _
  rw [← e1]
  refine tdiv_spec gl (Tx.of (Sz.int (z := 1) (ZB.one hm1) hm1) hm) (Tx.of hq hm) hm1 (by omega) ?_ ?_
  · intro _
    rw [rv_txt, rv_txt, Rat.div_def]
    refine ⟨_, _, rfl, ?_⟩
    have e2 : ((1 : Int) : Rat) * q⁻¹ = q⁻¹ := by rw [Rat.intCast_one, Rat.one_mul]
    first
    | (rw [e2]; exact hK)
    | (rw [Rat.one_mul]; exact hK)
  · intro e; rw [rv_txt] at e; exact absurd e h0
theorem esimplest_pos : ∀ n (lo hi : Rat) (h : Heap) (K : Value → Heap → Prop), lo.den + hi.den ≤ n → Gl h → 0 < lo → lo ≤ hi → Sz m lo → Sz m hi → 1 ≤ m → m ≤ 280 → K (.string (bs (txtQ (simpP lo hi)))) h → FCall Tryz.prog f_ESimplest #[.string (bs (txtQ lo)), .string (bs (txtQ hi))] h K := by
  intro n
  induction n with
  | zero => intro lo hi h K hn; have := lo.den_nz; omega
  | succ n ih =>
    intro lo hi h K hn gl h0 hle sl sh hm1 hm hK
    have hhi : 0 < hi := Std.lt_of_lt_of_le h0 hle
    have tl := Tx.of sl (by omega)
    have th := Tx.of sh (by omega)
    refine ESimplest_ok _ _ ?_
    unfold ESimplest
    refine tsign_spec gl th.len ⟨_, rfl, Br.dec (fun e => ?_) (fun _ => ?_)⟩
    · rw [rv_txt, sgnQ_lt] at e; exfalso; grind
    refine tsign_spec gl tl.len ⟨_, rfl, Br.dec (fun e => ?_) (fun _ => ?_)⟩
    · rw [rv_txt, sgnQ_le] at e; exfalso; grind
    refine tceil_spec gl tl (by omega) ⟨_, rfl, ?_⟩
    rw [rv_txt, txtI_eq]
    refine tcompare_spec gl (Tx.of (ceil_sz sl hm1) (by omega)) th (by omega) ⟨_, rfl, Br.dec (fun e => ?_) (fun e => ?_)⟩
    · rw [rv_txt, rv_txt, cmpQ_le] at e
      rw [simpP_int e] at hK
      exact hK
    · rw [rv_txt, rv_txt, cmpQ_le] at e
      obtain ⟨f1, f2, f3⟩ := no_int (fun x => x.elim e (fun y => y hle))
      rw [simpP_step e hle] at hK
      refine tfloor_spec gl tl (by omega) ⟨_, rfl, ?_⟩
      rw [rv_txt, txtI_eq]
      have sf := floor_sz sl hm1
      have tf := Tx.of sf (by omega)
      obtain ⟨sl1, sl2⟩ := step_sz sl f1 (Std.lt_of_le_of_lt f2 f3)
      obtain ⟨sh1, sh2⟩ := step_sz sh (Std.lt_of_lt_of_le f1 f2) f3
      obtain ⟨_, _, d1, x1⟩ := cf_step f1 (Std.lt_of_le_of_lt f2 f3)
      obtain ⟨_, _, d2, x2⟩ := cf_step (Std.lt_of_lt_of_le f1 f2) f3
      refine tsub_spec gl th tf (by omega) ⟨_, rfl, ?_⟩
      rw [rv_txt, rv_txt]
      refine einverse_spec gl sh1 hm1 (by omega) (by grind) ⟨_, rfl, ?_⟩
      refine tsub_spec gl tl tf (by omega) ⟨_, rfl, ?_⟩
      rw [rv_txt, rv_txt]
      refine einverse_spec gl sl1 hm1 (by omega) (by grind) ⟨_, rfl, ?_⟩
      have hord : (hi - lo.floor)⁻¹ ≤ (lo - lo.floor)⁻¹ := inv_le_inv (by grind) (by grind)
      have hp0 : 0 < (hi - lo.floor)⁻¹ := by grind
      refine ih _ _ _ _ (by omega) gl hp0 hord sh2 sl2 hm1 hm ⟨_, rfl, ?_⟩
      have sx := simpP_sz hp0 hord sh2
      have hx := (simpP_in hp0 hord).1
      generalize simpP (hi - lo.floor)⁻¹ (lo - lo.floor)⁻¹ = x at *
      refine einverse_spec gl sx hm1 (by omega) (by grind) ⟨_, rfl, ?_⟩
      refine tadd_spec gl tf (Tx.of (sx.inv hm1) (by omega)) (by omega) ⟨_, rfl, ?_⟩
      rw [rv_txt, rv_txt]; exact hK
theorem esimplest_spec {lo hi : Rat} (gl : Gl h) (hle : lo ≤ hi) (sl : Sz m lo) (sh : Sz m hi) (hm1 : 1 ≤ m) (hm : m ≤ 280) (hK : K (.string (bs (txtQ (simp1 lo hi)))) h) : FCall Tryz.prog f_ESimplest #[.string (bs (txtQ lo)), .string (bs (txtQ hi))] h K := by
  unfold simp1 at hK
  have tl := Tx.of sl (by omega)
  have th := Tx.of sh (by omega)
  by_cases hneg : hi < 0
  · rw [if_pos hneg] at hK
    refine ESimplest_ok _ _ ?_
    unfold ESimplest
    refine tsign_spec gl th.len ⟨_, rfl, Br.dec (fun _ => ?_) (fun e => ?_)⟩
    · refine tneg_spec gl th.len ⟨_, rfl, tneg_spec gl tl.len ⟨_, rfl, ?_⟩⟩
      rw [rv_txt, rv_txt]
      have hp0 : 0 < -hi := by grind
      have hord : -hi ≤ -lo := by grind
      refine esimplest_pos _ _ _ _ _ (Nat.le_refl _) gl hp0 hord sh.neg sl.neg hm1 hm ⟨_, rfl, ?_⟩
      have sx := simpP_sz hp0 hord sh.neg
      refine tneg_spec gl (Tx.of sx (by omega)).len ⟨_, rfl, ?_⟩
      rw [rv_txt]; exact hK
    · rw [rv_txt, sgnQ_lt] at e; exact absurd hneg e
  · rw [if_neg hneg] at hK
    by_cases hlo : lo ≤ 0
    · rw [if_pos hlo, txtQ0] at hK
      refine ESimplest_ok _ _ ?_
      unfold ESimplest
      refine tsign_spec gl th.len ⟨_, rfl, Br.dec (fun e => ?_) (fun _ => ?_)⟩
      · rw [rv_txt, sgnQ_lt] at e; exact absurd e hneg
      refine tsign_spec gl tl.len ⟨_, rfl, Br.dec (fun _ => hK) (fun e => ?_)⟩
      rw [rv_txt, sgnQ_le] at e; exact absurd hlo e
    · rw [if_neg hlo] at hK
      exact esimplest_pos _ _ _ _ _ (Nat.le_refl _) gl (Rat.not_le.1 hlo) hle sl sh hm1 hm hK
theorem esimplest1_spec {x y : List UInt8} (gl : Gl h) (hx : x.length ≤ 570) (hy : y.length ≤ 570) (sx : Sz m (rv x)) (sy : Sz m (rv y)) (hm1 : 1 ≤ m) (hm : m ≤ 280) (hK : ∀ (r : List UInt8) (e : Int), (¬ (IsNum x ∧ IsNum y) → r = [] ∧ e = 1) → (IsNum x → IsNum y → rv y < rv x → r = [] ∧ e = 3) → (IsNum x → IsNum y → rv x ≤ rv y → r = txtQ (simp1 (rv x) (rv y)) ∧ e = 0) → K (.tuple #[.string (bs r), I e]) h) : FCall Tryz.prog f_ESimplest1 #[.string (bs x), .string (bs y)] h K := by
  refine ESimplest1_ok _ _ ?_
  unfold ESimplest1
  refine ⟨fun L hp => hp = h ∧ ∃ t : Bool, L = [.bool t] ∧ (t = true ↔ ¬ (IsNum x ∧ IsNum y)), valid_spec gl hx (fun e => ?_) (fun e => ?_), ?_⟩
  · refine ⟨_, rfl, Br.not (valid_spec gl hy (fun e2 => ?_) (fun e2 => ?_))⟩
    · exact ⟨_, rfl, rfl, false, rfl, by simp [e, e2]⟩
    · exact ⟨_, rfl, rfl, true, rfl, by simp [e2]⟩
  · exact ⟨_, rfl, Br.not ⟨rfl, true, rfl, by simp [e]⟩⟩
  rintro t13 hp2 ⟨rfl, t, hL, ht⟩
  obtain rfl : t13 = t := by simpa using hL
  refine Br.of (fun e => ?_) (fun e => ?_)
  · have := ht.1 e
    exact hK [] 1 (fun _ => ⟨rfl, rfl⟩) (fun a b => absurd ⟨a, b⟩ this) (fun a b => absurd ⟨a, b⟩ this)
  · have hxy : IsNum x ∧ IsNum y := by
      apply Classical.byContradiction
      intro hn
      rw [ht.2 hn] at e; cases e
    refine tcompare_spec gl ⟨hy, sy⟩ ⟨hx, sx⟩ (by omega) ⟨_, rfl, Br.dec (fun e1 => ?_) (fun e1 => ?_)⟩
    · rw [cmpQ_lt] at e1
      exact hK [] 3 (fun a => absurd hxy a) (fun _ _ _ => ⟨rfl, rfl⟩) (fun _ _ a => absurd e1 (Rat.not_lt.2 a))
    · rw [cmpQ_lt, Rat.not_lt] at e1
      have ex := txt_rv hxy.1
      have ey := txt_rv hxy.2
      have key := esimplest_spec (K := fun r3 hp4 => ∃ (t20 : ByteArray), r3 = .string t20 ∧ K (.tuple #[.string t20, I (0 : Int)]) hp4) gl e1 sx sy hm1 hm ⟨_, rfl, hK _ 0 (fun a => absurd hxy a) (fun _ _ a => absurd a (Rat.not_lt.2 e1)) (fun _ _ _ => ⟨rfl, rfl⟩)⟩
      rw [ex, ey] at key
      exact key
end
end Go.Proofs.YtgnclfejnndicaaGreatDoor
/-
  The law NearestSimplest.
-/
namespace Go.Proofs.YtgnclfejnndicaaGreatDoor
open Go
set_option maxRecDepth 20000
def LawK (h : Heap) (r : Value) (h' : Heap) : Prop := r = .bool true ∧ h.le h'
theorem rv_sz {x : List UInt8} {k : Nat} (hl : x.length ≤ k) (hk : 1 ≤ k) : Sz (4 * k) (rv x) := by
  by_cases hn : IsNum x
  · obtain ⟨neg, a, b, f⟩ := hn.form
    obtain ⟨h1, h2⟩ := f.rv_num hn
    have hlen := f.lens
    have habs : (fNum neg a).natAbs = dval a := by unfold fNum; split <;> simp
    refine ⟨?_, ?_⟩
    · rw [h1]; exact (dval_zb f.da (k := k) (by omega)).le (by rw [habs, Int.natAbs_natCast]; exact Nat.le_refl _)
    · rw [h2]
      unfold fDen
      split
      · exact ZB.one (by omega)
      · exact dval_zb f.db (by omega)
  · rw [rv_not hn]; exact Sz.zero (by omega)
theorem known_simp : simp1 (mkRat 3 10) (mkRat 2 5) = mkRat 1 3 := by
  unfold simp1
  rw [if_neg (by decide +kernel), if_neg (by decide +kernel), simpP_step (by decide +kernel) (by decide +kernel)]
  have e1 : (mkRat 3 10).floor = 0 := by decide +kernel
  have e2 : (mkRat 2 5 - ((0 : Int) : Rat))⁻¹ = mkRat 5 2 := by decide +kernel
  have e3 : (mkRat 3 10 - ((0 : Int) : Rat))⁻¹ = mkRat 10 3 := by decide +kernel
  rw [e1, e2, e3, simpP_int (by decide +kernel)]
  decide +kernel
theorem txt310 : txtQ (mkRat 3 10) = [51, 47, 49, 48] := by
  have h1 : (mkRat 3 10).num = 3 := by decide +kernel
  have h2 : (mkRat 3 10).den = 10 := by decide +kernel
  simp [txtQ, txtI, h1, h2, digs, dd_pos, dd_zero, dch]
theorem txt25 : txtQ (mkRat 2 5) = [50, 47, 53] := by
  have h1 : (mkRat 2 5).num = 2 := by decide +kernel
  have h2 : (mkRat 2 5).den = 5 := by decide +kernel
  simp [txtQ, txtI, h1, h2, digs, dd_pos, dd_zero, dch]
theorem txt13 : txtQ (mkRat 1 3) = [49, 47, 51] := by
  have h1 : (mkRat 1 3).num = 1 := by decide +kernel
  have h2 : (mkRat 1 3).den = 3 := by decide +kernel
  simp [txtQ, txtI, h1, h2, digs, dd_pos, dd_zero, dch]
section
variable {h : Heap} {K : Value → Heap → Prop} {x y : List UInt8}
theorem known_spec (gl : Gl h) (hK : K (.bool true) h) : FCall Tryz.prog f_LKnown #[] h K := by
  refine LKnown_ok ?_
  unfold LKnown
  show FCall _ _ #[.string (bs [51, 47, 49, 48]), .string (bs [50, 47, 53])] _ _
  rw [← txt310, ← txt25]
  have s1 : Sz 8 (rv (txtQ (mkRat 3 10))) := by rw [rv_txt]; exact ⟨by unfold ZB; decide +kernel, by unfold ZB; decide +kernel⟩
  have s2 : Sz 8 (rv (txtQ (mkRat 2 5))) := by rw [rv_txt]; exact ⟨by unfold ZB; decide +kernel, by unfold ZB; decide +kernel⟩
  refine esimplest1_spec gl (by rw [txt310]; decide) (by rw [txt25]; decide) s1 s2 (by decide) (by decide) ?_
  intro r e _ _ k3
  have hle : rv (txtQ (mkRat 3 10)) ≤ rv (txtQ (mkRat 2 5)) := by rw [rv_txt, rv_txt]; decide +kernel
  obtain ⟨rfl, rfl⟩ := k3 ⟨_, rfl⟩ ⟨_, rfl⟩ hle
  rw [rv_txt, rv_txt, known_simp, txt13]
  refine ⟨_, _, rfl, Br.beq (fun _ => ?_) (fun e => absurd rfl e)⟩
  have : ((bs [49, 47, 51]).toList == ({ data := #[49, 47, 51] } : ByteArray).toList) = true := by rw [show ({ data := #[49, 47, 51] } : ByteArray) = bs [49, 47, 51] from rfl, bs_beq]; simp
  rw [this]; exact hK
end
end Go.Proofs.YtgnclfejnndicaaGreatDoor
/-
  From the world of a statement to the visible heap of the walks; the tables that the statement lists.
-/
namespace Go.Proofs.YtgnclfejnndicaaGreatDoor
open Go Go.RowKit
set_option maxRecDepth 20000
def memOf (W : World) : Heap := fun b => W.heap[b]?
theorem frame_of {P : Program} {f : FuncId} {args : Array Value} {W : World} (x : FCall P f args (memOf W) (LawK (memOf W))) : Calls P f args W fun e w' => e = .returned (.bool true) ∧ Below W.heap.size W w' := by
  refine (x W (fun b o e => e)).mono ?_
  rintro e W' ⟨r, h', he, ⟨hr, hle⟩, fr⟩
  subst hr
  refine ⟨he, fr.os, fr.tape, fr.output, fr.size, fun k hk => ?_⟩
  have e0 : memOf W k = some W.heap[k] := Array.getElem?_eq_getElem hk
  have := fr.sim k _ (hle k _ e0)
  rw [this]; exact e0.symm
theorem memOf_cell {W : World} {a : Addr} {v : Value} (e : W.cell? a = some v) : (memOf W).cell? a = some v := by
  unfold World.cell? at e
  unfold Heap.cell? memOf
  exact e
theorem wf_bnd {n : Int} (h : (Lit.int .i64 n).wf = true) : -9223372036854775808 ≤ n ∧ n ≤ 9223372036854775807 := by
  simp only [Lit.wf, Bool.and_eq_true, decide_eq_true_eq] at h
  exact h
theorem laidTail {P : Program} {W : World} {x : String × DataW Unit} {rest : List (String × DataW Unit)} (h : laidMet P (x :: rest) W) : laidMet P rest W := by
  obtain ⟨n, d⟩ := x
  obtain ⟨ps, ⟨g, t, cs, fuel, p, q, h1, h2, h3, h4, h5, rfl⟩, h6, h7⟩ := h
  exact ⟨q, h5, (List.nodup_append.1 h6).2.1, fun b off hb => h7 b off (List.mem_append_right _ hb)⟩
def tab32 : List Int := [0, 1, 28, 2, 29, 14, 24, 3, 30, 22, 20, 15, 25, 17, 4, 8, 31, 27, 13, 23, 21, 19, 16, 7, 26, 12, 18, 6, 11, 5, 10, 9]
def tab64 : List Int := [0, 1, 56, 2, 57, 49, 28, 3, 61, 58, 42, 50, 38, 29, 17, 4, 62, 47, 59, 36, 45, 43, 51, 22, 53, 39, 33, 30, 24, 18, 12, 5, 63, 55, 48, 27, 60, 41, 37, 16, 46, 35, 44, 21, 52, 32, 23, 11, 54, 26, 40, 15, 34, 20, 31, 10, 25, 14, 19, 9, 13, 8, 7, 6]
def tab10 : List Int := [1, 10, 100, 1000, 10000, 100000, 1000000, 10000000, 100000000, 1000000000, 10000000000, 100000000000, 1000000000000, 10000000000000, 100000000000000, 1000000000000000, 10000000000000000, 100000000000000000, 1000000000000000000, 10000000000000000000]
theorem gTab64 : Tryz.prog.globalNamed "math/bits.deBruijn64tab" = some 1 := by kernel_rfl
theorem gTab10 : Tryz.prog.globalNamed "internal/strconv.uint64pow10" = some 4 := by kernel_rfl
theorem tabs_gl {W : World} (h : laidMet Tryz.prog [("math/bits.deBruijn32tab", Rows.laid_math_bits_deBruijn32tab), ("math/bits.deBruijn64tab", Rows.laid_math_bits_deBruijn64tab), ("internal/strconv.uint64pow10", Rows.laid_internal_strconv_uint64pow10)] W) : Gl (memOf W) := by
  have h2 := laidTail h
  have h3 := laidTail h2
  have t64 : Lib.TabIs Tryz.prog W "math/bits.deBruijn64tab" .u8 tab64 := Lib.tabIs_of_head (rest := [("internal/strconv.uint64pow10", Rows.laid_internal_strconv_uint64pow10)]) gTab64 (by kernel_rfl) Tryz.underlying263 Tryz.underlying5 (by kernel_rfl) (by kernel_rfl) h2
  have t10 : Lib.TabIs Tryz.prog W "internal/strconv.uint64pow10" .u64 tab10 := Lib.tabIs_of_head (rest := []) gTab10 (by kernel_rfl) Tryz.underlying268 Tryz.underlying98 (by kernel_rfl) (by kernel_rfl) h3
  have k64 : ∀ k, k < 64 → tzIdx k < tab64.length ∧ tab64.getD (tzIdx k) 0 = (k : Int) := by decide +kernel
  have k10 : ∀ k, k < 20 → tab10.getD k 0 = ((10 ^ k : Nat) : Int) := by decide +kernel
  refine ⟨fun k hk => ?_, fun k hk => ?_⟩
  · obtain ⟨a, b⟩ := k64 k hk
    have := memOf_cell (t64.cell gTab64 (tzIdx k) a)
    rw [add_at, Nat.mul_one, Nat.zero_add, this, b]
  · have := memOf_cell (t10.cell gTab10 k (by show k < 20; exact hk))
    rw [add_at, Nat.mul_one, Nat.zero_add, this, k10 k hk]
def layTab (zs : List Int) (k : IntKind) : Obj → Obj
  | .cells _ t frozen => .cells (zs.map (Value.int k)).toArray t frozen
  | o => o
def layTabs (a : Array Obj) : Array Obj := ((a.modify 5 (layTab tab32 .u8)).modify 1 (layTab tab64 .u8)).modify 4 (layTab tab10 .u64)
end Go.Proofs.YtgnclfejnndicaaGreatDoor
/-
  Continued fractions by numerators and denominators: bounds; plain, no program here.
-/
namespace Go.Proofs.YtgnclfejnndicaaGreatDoor
open Go
structure CV (s : CS) (q x : Rat) : Prop where
  det : s.p * s.r' - s.p' * s.r = 1 ∨ s.p * s.r' - s.p' * s.r = -1
  dq : (q.den : Int) = s.r * x.num + s.r' * x.den
  nq : q.num = s.p * x.num + s.p' * x.den
  r0 : 0 ≤ s.r ∧ 0 ≤ s.r' ∧ 0 < s.r + s.r'
theorem CV.init (q : Rat) : CV cs0 q q := ⟨.inl (by decide), by simp [cs0], by simp [cs0], by decide⟩
theorem num_den (x : Rat) : x * (x.den : Rat) = (x.num : Rat) := by
  have hd : (x.den : Rat) ≠ 0 := by
    have := x.den_nz
    intro e
    exact this (Rat.natCast_eq_zero_iff.1 e)
  have h1 : x = (x.num : Rat) / (x.den : Rat) := by
    rw [← Rat.mkRat_eq_div, Rat.mkRat_self]
  conv => lhs; lhs; rw [h1]
  exact Rat.div_mul_cancel hd
theorem CV.csi {s : CS} {q x : Rat} (c : CV s q x) : CSI s q x := by
  refine ⟨c.det, ?_, c.r0⟩
  have hq := num_den q
  have hx := num_den x
  have d1 : (q.den : Rat) = s.r * (x.num : Rat) + s.r' * (x.den : Rat) := by
    have := congrArg (fun z : Int => (z : Rat)) c.dq
    simpa [Rat.intCast_natCast] using this
  have n1 : (q.num : Rat) = s.p * (x.num : Rat) + s.p' * (x.den : Rat) := by
    have := congrArg (fun z : Int => (z : Rat)) c.nq
    simpa [Rat.intCast_natCast] using this
  have hd : (x.den : Rat) ≠ 0 := by
    have := x.den_nz
    intro e
    exact this (Rat.natCast_eq_zero_iff.1 e)
  have key : (q * (s.r * x + s.r')) * (x.den : Rat) = (s.p * x + s.p') * (x.den : Rat) := by
    rw [← hx] at d1 n1
    have e1 : (q * (s.r * x + s.r')) * (x.den : Rat) = q * (q.den : Rat) := by rw [d1]; grind
    have e2 : (s.p * x + s.p') * (x.den : Rat) = (q.num : Rat) := by rw [n1]; grind
    rw [e1, e2, hq]
  have := congrArg (fun y => y * (x.den : Rat)⁻¹) key
  simp only [Rat.mul_assoc, Rat.mul_inv_cancel _ hd, Rat.mul_one] at this
  exact this
theorem CV.step {s : CS} {q x : Rat} {a : Int} (i : CV s q x) (ha : 0 ≤ a ∨ s.r = 0) (hx : (a : Rat) < x) (h2 : x < a + 1) : CV (s.next a) q (x - a)⁻¹ := by
  obtain ⟨e1, e2, _, _⟩ := cf_step hx h2
  refine ⟨CS.det_next a i.det, ?_, ?_, ?_⟩
  · rw [e1, e2, i.dq]; simp only [CS.next]; grind
  · rw [e1, e2, i.nq]; simp only [CS.next]; grind
  · have h0 := i.r0
    simp only [CS.next]
    rcases ha with ha | ha
    · have := Int.mul_nonneg ha h0.1
      by_cases h : s.r = 0
      · rw [h]; omega
      · omega
    · rw [ha]; omega
theorem CV.last {s : CS} {q x : Rat} (i : CV s q x) (h : (x.floor : Rat) = x) : (s.next x.floor).r = q.den ∧ (s.next x.floor).p = q.num := by
  have hn : x.num = x.floor := by
    have := congrArg Rat.num h
    simpa using this.symm
  have hd : x.den = 1 := by
    have := congrArg Rat.den h
    simpa using this.symm
  rw [i.dq, i.nq, hn, hd]
  simp only [CS.next]
  constructor <;> grind
theorem CV.bound {s : CS} {q x : Rat} (i : CV s q x) (hx : 1 ≤ x) : s.r ≤ q.den ∧ s.p.natAbs ≤ q.num.natAbs + 1 := by
  have hnd : (x.den : Int) ≤ x.num := by
    have := (Rat.le_iff 1 x).1 hx
    simpa using this
  have hd1 : 1 ≤ (x.den : Int) := by have := x.den_nz; omega
  obtain ⟨r1, r2, r3⟩ := i.r0
  have m1 : s.r * 1 ≤ s.r * x.num := Int.mul_le_mul_of_nonneg_left (by omega) r1
  have m2 : 0 ≤ s.r' * x.den := Int.mul_nonneg r2 (by omega)
  have hr : s.r ≤ q.den := by rw [i.dq]; omega
  refine ⟨hr, ?_⟩
  have hxd : (x.den : Int) ≤ q.den := by
    have k1 : s.r * (x.den : Int) ≤ s.r * x.num := Int.mul_le_mul_of_nonneg_left hnd r1
    have k2 : 1 * (x.den : Int) ≤ (s.r + s.r') * x.den := Int.mul_le_mul_of_nonneg_right (by omega) (by omega)
    rw [Int.add_mul] at k2
    rw [i.dq]; omega
  have hq1 : 1 ≤ (q.den : Int) := by have := q.den_nz; omega
  have key : s.p * q.den = q.num * s.r + (s.p * s.r' - s.p' * s.r) * x.den := by
    rw [i.dq, i.nq]; grind
  have ab1 : (s.p * q.den).natAbs ≤ q.num.natAbs * q.den + q.den := by
    rw [key]
    refine Nat.le_trans (Int.natAbs_add_le _ _) ?_
    have t1 : (q.num * s.r).natAbs ≤ q.num.natAbs * q.den := by
      rw [Int.natAbs_mul]; exact Nat.mul_le_mul_left _ (by omega)
    have t2 : ((s.p * s.r' - s.p' * s.r) * x.den).natAbs ≤ q.den := by
      rw [Int.natAbs_mul]
      have : (s.p * s.r' - s.p' * s.r).natAbs = 1 := by rcases i.det with h | h <;> rw [h] <;> rfl
      rw [this, Nat.one_mul, Int.natAbs_natCast]; omega
    omega
  rw [Int.natAbs_mul, Int.natAbs_natCast] at ab1
  have ab2 : s.p.natAbs * q.den ≤ (q.num.natAbs + 1) * q.den := by rw [Nat.add_mul, Nat.one_mul]; exact ab1
  exact Nat.le_of_mul_le_mul_right ab2 (by have := q.den_nz; omega)
theorem cf_half {x : Rat} (h1 : 1 < x) (hf : (x.floor : Rat) < x) : 2 * ((x - x.floor)⁻¹.num.natAbs * (x - x.floor)⁻¹.den) < x.num.natAbs * x.den := by
  obtain ⟨e1, e2, e3, e4⟩ := cf_step hf (ceil_facts x).2.2.2
  have hfl : 1 ≤ x.floor := Rat.le_floor_iff.2 (by simpa using Rat.le_of_lt h1)
  have hm : 1 * (x.den : Int) ≤ x.floor * x.den := Int.mul_le_mul_of_nonneg_right hfl (by omega)
  have hd := x.den_nz
  generalize (x - x.floor)⁻¹ = y at *
  have hn : y.num.natAbs = x.den := by rw [e1]; exact Int.natAbs_natCast _
  have hN : x.num = (x.num.natAbs : Int) := by
    have : 0 < x.num := num_pos' (by grind)
    omega
  have k1 : 2 * y.den < x.num.natAbs := by omega
  rw [hn]
  have := Nat.mul_lt_mul_of_pos_right k1 (show 0 < x.den by omega)
  calc 2 * (x.den * y.den) = 2 * y.den * x.den := by rw [Nat.mul_comm x.den, Nat.mul_assoc]
    _ < x.num.natAbs * x.den := this
theorem cv_state (q : Rat) : ∀ k, k < (cfl q).length → ∃ x, (cfl q).drop k = cfl x ∧ CV (css ((cfl q).take k)) q x ∧ (0 < k → 1 < x ∧ 0 < (css ((cfl q).take k)).r) ∧ (1 < k → 0 < (css ((cfl q).take k)).r') := by
  intro k
  induction k with
  | zero => intro _; exact ⟨q, by simp, by simpa [css] using CV.init q, fun h => by omega, fun h => by omega⟩
  | succ k ih =>
    intro hk
    obtain ⟨x, hd, cv, h1, h2⟩ := ih (by omega)
    have hxe : (cfl q)[k]'(by omega) = x.floor ∧ (cfl q).drop (k + 1) = (cfl x).drop 1 := by
      have e1 : (cfl q).drop k = (cfl q)[k]'(by omega) :: (cfl q).drop (k + 1) := List.drop_eq_getElem_cons (by omega)
      rw [hd] at e1
      have e2 : ∃ t, cfl x = x.floor :: t := by
        by_cases hf : (x.floor : Rat) = x
        · exact ⟨[], cfl_end hf⟩
        · exact ⟨_, cfl_step hf⟩
      obtain ⟨t, ht⟩ := e2
      rw [ht] at e1 ⊢
      simp only [List.cons.injEq] at e1
      exact ⟨e1.1.symm, by simpa using e1.2.symm⟩
    have hnf : (x.floor : Rat) ≠ x := by
      intro hf
      have e3 := hxe.2
      rw [cfl_end hf] at e3
      have := congrArg List.length e3
      rw [List.length_drop] at this; simp at this; omega
    have hlt := Rat.lt_of_le_of_ne (Rat.floor_le x) hnf
    have hlt2 := (ceil_facts x).2.2.2
    have htk : css ((cfl q).take (k + 1)) = (css ((cfl q).take k)).next x.floor := by
      rw [List.take_succ_eq_append_getElem (by omega), css_snoc, hxe.1]
    have hfl : 0 < k → 1 ≤ x.floor := fun h => Rat.le_floor_iff.2 (by simpa using Rat.le_of_lt (h1 h).1)
    have ha : 0 ≤ x.floor ∨ (css ((cfl q).take k)).r = 0 := by
      by_cases h0 : k = 0
      · right; rw [h0]; simp [css, cs0]
      · left; have := hfl (by omega); omega
    have cv2 := cv.step ha hlt hlt2
    refine ⟨(x - x.floor)⁻¹, by rw [hxe.2, cfl_step hnf]; simp, by rw [htk]; exact cv2, fun _ => ⟨(cf_step hlt hlt2).2.2.2, ?_⟩, fun h3 => ?_⟩
    · rw [htk]
      by_cases h0 : k = 0
      · rw [h0]; simp [css, cs0, CS.next]
      · have hr := (h1 (by omega)).2
        have hf := hfl (by omega)
        have hm : (css ((cfl q).take k)).r * 1 ≤ (css ((cfl q).take k)).r * x.floor := Int.mul_le_mul_of_nonneg_left hf (by omega)
        have := cv.r0
        simp only [CS.next]; rw [Int.mul_comm]; omega
    · rw [htk]
      simp only [CS.next]
      exact (h1 (by omega)).2
theorem cfl_head (x : Rat) : ∃ t, cfl x = x.floor :: t := by
  by_cases hf : (x.floor : Rat) = x
  · exact ⟨[], cfl_end hf⟩
  · exact ⟨_, cfl_step hf⟩
theorem cfl_len (q : Rat) : 0 < (cfl q).length := by
  obtain ⟨t, ht⟩ := cfl_head q
  rw [ht]; simp
theorem cv_next (q : Rat) {k : Nat} (hk : k < (cfl q).length) {x : Rat} (hd : (cfl q).drop k = cfl x) : (cfl q)[k] = x.floor ∧ css ((cfl q).take (k + 1)) = (css ((cfl q).take k)).next x.floor ∧ (k + 1 = (cfl q).length ↔ (x.floor : Rat) = x) := by
  have e1 : (cfl q).drop k = (cfl q)[k] :: (cfl q).drop (k + 1) := List.drop_eq_getElem_cons hk
  rw [hd] at e1
  obtain ⟨t, ht⟩ := cfl_head x
  have e0 : (cfl q)[k] = x.floor := by
    rw [ht] at e1; simp only [List.cons.injEq] at e1; exact e1.1.symm
  refine ⟨e0, by rw [List.take_succ_eq_append_getElem hk, css_snoc, e0], ?_⟩
  have hl := congrArg List.length e1
  rw [List.length_cons, List.length_drop] at hl
  constructor
  · intro h
    apply Classical.byContradiction
    intro hf
    rw [cfl_step hf] at hl
    have := cfl_len (x - x.floor)⁻¹
    simp at hl; omega
  · intro hf
    rw [cfl_end hf] at hl
    simp at hl; omega
theorem cv_bounds (q : Rat) {m : Nat} (hq : Sz m q) {k : Nat} (hk : k ≤ (cfl q).length) : ZB (m + 1) (css ((cfl q).take k)).p ∧ ZB (m + 1) (css ((cfl q).take k)).r := by
  by_cases h0 : k = 0
  · subst h0
    simp only [List.take_zero, css, List.foldl_nil, cs0]
    exact ⟨ZB.one (by omega), ZB.zero⟩
  · by_cases hl : k = (cfl q).length
    · obtain ⟨j, rfl⟩ : ∃ j, k = j + 1 := ⟨k - 1, by omega⟩
      obtain ⟨x, hd, cv, _, _⟩ := cv_state q j (by omega)
      obtain ⟨e1, e2, e3⟩ := cv_next q (by omega) hd
      have := cv.last (e3.1 hl)
      rw [e2, this.1, this.2]
      exact ⟨hq.num.mono (by omega), hq.den.mono (by omega)⟩
    · obtain ⟨x, hd, cv, h1, _⟩ := cv_state q k (by omega)
      have hb := cv.bound (Rat.le_of_lt (h1 (by omega)).1)
      have hn := hq.num
      have hdn := hq.den
      have r0 := cv.r0
      unfold ZB at *
      rw [Nat.pow_succ]
      rw [Int.natAbs_natCast] at hdn
      have : 1 ≤ 2 ^ m := Nat.one_le_two_pow
      constructor <;> omega
theorem cv_parts (q : Rat) {k : Nat} (hk : k < (cfl q).length) : 0 < (css ((cfl q).take (k + 1))).r ∧ (((css ((cfl q).take (k + 1))).p : Rat) / (css ((cfl q).take (k + 1))).r).num = (css ((cfl q).take (k + 1))).p ∧ ((((css ((cfl q).take (k + 1))).p : Rat) / (css ((cfl q).take (k + 1))).r).den : Int) = (css ((cfl q).take (k + 1))).r := by
  obtain ⟨x, hd, cv, h1, _⟩ := cv_state q k hk
  obtain ⟨e1, e2, e3⟩ := cv_next q hk hd
  have hdet := CS.det_next x.floor cv.det
  have hr : 0 < ((css ((cfl q).take k)).next x.floor).r := by
    by_cases h0 : k = 0
    · rw [h0]; simp [css, cs0, CS.next]
    · have hr := (h1 (by omega)).2
      have hf : 1 ≤ x.floor := Rat.le_floor_iff.2 (by simpa using Rat.le_of_lt (h1 (by omega)).1)
      have hm : (css ((cfl q).take k)).r * 1 ≤ (css ((cfl q).take k)).r * x.floor := Int.mul_le_mul_of_nonneg_left hf (by omega)
      have := cv.r0
      simp only [CS.next]; rw [Int.mul_comm]; omega
  rw [e2]
  have := CS.parts hdet hr
  exact ⟨hr, this.1, this.2⟩
theorem cvs_last (q : Rat) {k : Nat} (hk : k + 1 = (cfl q).length) : ((css ((cfl q).take (k + 1))).p : Rat) / (css ((cfl q).take (k + 1))).r = q := by
  obtain ⟨x, hd, cv, _, _⟩ := cv_state q k (by omega)
  obtain ⟨e1, e2, e3⟩ := cv_next q (by omega) hd
  have hl := cv.last (e3.1 hk)
  obtain ⟨_, h2, h3⟩ := cv_parts q (k := k) (by omega)
  apply Rat.ext
  · rw [h2, e2, hl.2]
  · have : ((((css ((cfl q).take (k + 1))).p : Rat) / (css ((cfl q).take (k + 1))).r).den : Int) = q.den := by rw [h3, e2, hl.1]
    omega
end Go.Proofs.YtgnclfejnndicaaGreatDoor
/-
  Quotients and convergents: the program's.
-/
namespace Go.Proofs.YtgnclfejnndicaaGreatDoor
open Go
set_option maxRecDepth 20000
abbrev sv (a : Int) : Value := .string (bs (txtI a))
abbrev qv (a : Rat) : Value := .string (bs (txtQ a))
theorem rv_txtI (z : Int) : rv (txtI z) = (z : Rat) := by rw [txtI_eq, rv_txt]
theorem Tx.int {m : Nat} {z : Int} (h : ZB m z) (hm1 : 1 ≤ m) (hm : m ≤ 568) : Tx m (txtI z) := ⟨by have := txtI_len h; omega, by rw [rv_txtI]; exact Sz.int h hm1⟩
theorem txtI_inj {a b : Int} (h : txtI a = txtI b) : a = b := by
  rw [txtI_eq, txtI_eq] at h
  exact Rat.intCast_inj.1 (txtQ_inj h)
theorem txtI_one : txtI 1 = [49] := by simp [txtI, digs, dd_pos, dd_zero, dch]
theorem txtI_zero : txtI 0 = [48] := by simp [txtI, digs]
section
variable {h g : Heap} {K : Value → Heap → Prop} {m : Nat} {q : Rat}
theorem equotients_spec (gl : Gl h) (hq : Sz m q) (hm1 : 1 ≤ m) (hm : m ≤ 280) (hK : ∀ A n c h', h.le h' → n = (cfl q).length → n ≤ c → n ≤ 1000 → SlV h' A ((cfl q).map sv) → K (.slice A n c) h') : FCall Tryz.prog f_EQuotients #[.string (bs (txtQ q))] h K := by
  refine EQuotients_ok _ ?_
  unfold EQuotients
  refine ⟨fun s hp => ∃ (x : Rat) (dn : List Int) (A : Option Addr) (n c : Nat) (g : Heap), s = [qv x, .slice A n c] ∧ cfl q = dn ++ cfl x ∧ h.le g ∧ Priv hp g ty_tStrings_e 1 A n c (dn.map sv) ∧ n = dn.length ∧ Sz m x ∧ (dn = [] ∨ (1 < x ∧ x.num.natAbs * x.den * 2 ^ (dn.length - 1) < 2 ^ (2 * m))), fun s _ => match s with | [.string b, _] => (rv b.data.toList).den | _ => 0, ⟨q, [], none, 0, 0, h, rfl, rfl, Heap.le_refl h, Priv.nil _ _ _ _, rfl, hq, .inl rfl⟩, ?_⟩
  rintro q1 lA ln lc hp ⟨x, dn, A, n, c, g, hs, hc, lg, p, hn, sx, hb⟩
  simp only [List.cons.injEq, Value.slice.injEq, Value.string.injEq, and_true] at hs
  obtain ⟨rfl, rfl, rfl, rfl⟩ := hs
  have hdl : dn.length ≤ 600 := by
    rcases hb with hb | ⟨h1, h2⟩
    · subst hb; simp
    · have hx0 : 0 < x.num := num_pos' (by grind)
      have h3 : 1 ≤ x.num.natAbs * x.den := Nat.mul_pos (by omega) (Nat.pos_of_ne_zero x.den_nz)
      have h4 : 1 * 2 ^ (dn.length - 1) ≤ x.num.natAbs * x.den * 2 ^ (dn.length - 1) := Nat.mul_le_mul_right _ h3
      have h5 : 2 ^ (dn.length - 1) < 2 ^ (2 * m) := by omega
      have := (Nat.pow_lt_pow_iff_right (a := 2) (by decide)).1 h5
      omega
  have lhp : h.le hp := Heap.le_trans lg p.le
  have tx := Tx.of sx (by omega)
  have sf := floor_sz sx hm1
  refine tfloor_spec (gl.mono lhp) tx (by omega) ⟨_, rfl, ?_⟩
  rw [rv_txt]
  refine push_ok tStrings p rfl rfl (by omega) (by omega) ?_
  intro A' c' h' g' lg' p'
  rw [show dn.map sv ++ [Value.string (bs (txtI x.floor))] = (dn ++ [x.floor]).map sv by simp] at p'
  have lh' : h.le h' := Heap.le_trans lg (Heap.le_trans lg' p'.le)
  rw [bs_beq, txtI_eq]
  refine Br.dec (fun e => ?_) (fun e => ?_)
  · have hf := txtQ_inj e
    rw [cfl_end hf] at hc
    refine hK _ _ _ _ lh' (by rw [hc]; simp; omega) p'.2.1 (by omega) ?_
    rw [hc]; exact p'.slV
  · have hf : (x.floor : Rat) ≠ x := fun e0 => e (by rw [e0])
    have hlt := Rat.lt_of_le_of_ne (Rat.floor_le x) hf
    have hlt2 := (ceil_facts x).2.2.2
    obtain ⟨s1, s2⟩ := step_sz sx hlt hlt2
    obtain ⟨e1, e2, e3, e4⟩ := cf_step hlt hlt2
    refine tsub_spec (gl.mono lh') tx (Tx.of sf (by omega)) (by omega) ⟨_, rfl, ?_⟩
    rw [rv_txt, rv_txt]
    refine einverse_spec (gl.mono lh') s1 hm1 (by omega) (by grind) ⟨_, rfl, ?_⟩
    refine ⟨⟨(x - x.floor)⁻¹, dn ++ [x.floor], A', ln + 1, c', g', rfl, by rw [hc, cfl_step hf]; simp, Heap.le_trans lg lg', p', by simp; omega, s2, .inr ⟨e4, ?_⟩⟩, ?_⟩
    · rcases hb with hb | ⟨h1, h2⟩
      · subst hb
        simp only [List.nil_append, List.length_singleton, Nat.sub_self, Nat.pow_zero, Nat.mul_one]
        rw [e1, Int.natAbs_natCast]
        have hd := sx.den
        unfold ZB at hd
        rw [Int.natAbs_natCast] at hd
        rw [show 2 * m = m + m by omega, Nat.pow_add]
        exact Nat.mul_lt_mul'' hd (by omega)
      · have hh := cf_half h1 hlt
        by_cases h0 : dn = []
        · subst h0
          simp only [List.nil_append, List.length_singleton, List.length_nil, Nat.sub_self, Nat.pow_zero, Nat.mul_one, Nat.zero_sub] at h2 ⊢
          omega
        · have hne : 1 ≤ dn.length := by
            apply Classical.byContradiction
            intro h0'
            exact h0 (List.eq_nil_of_length_eq_zero (by omega))
          rw [List.length_append, List.length_singleton, Nat.add_sub_cancel]
          have e5 : 2 ^ dn.length = 2 * 2 ^ (dn.length - 1) := by
            rw [← Nat.pow_succ']; congr 1; omega
          rw [e5]
          generalize (x - x.floor)⁻¹.num.natAbs * (x - x.floor)⁻¹.den = P at *
          generalize x.num.natAbs * x.den = Q at *
          generalize 2 ^ (dn.length - 1) = R at *
          have : 2 * P * R ≤ Q * R := Nat.mul_le_mul_right _ (by omega)
          have e6 : P * (2 * R) = 2 * P * R := by rw [← Nat.mul_assoc, Nat.mul_comm P 2]
          omega
    · simp only [bs_data, rv_txt]; exact e3
theorem tmulI_spec {x y : Int} {a b : Nat} (gl : Gl h) (hx : ZB a x) (hy : ZB b y) (ha : 1 ≤ a ∧ a ≤ 568) (hb : 1 ≤ b ∧ b ≤ 568) (hK : K (.string (bs (txtI (x * y)))) h) : FCall Tryz.prog f_TMul #[sv x, sv y] h K := by
  have t1 : Tx 568 (txtI x) := Tx.int (hx.mono ha.2) (by omega) (by omega)
  have t2 : Tx 568 (txtI y) := Tx.int (hy.mono hb.2) (by omega) (by omega)
  refine tmul_spec gl t1 t2 (by omega) ?_
  rw [rv_txtI, rv_txtI, ← Rat.intCast_mul, ← txtI_eq]; exact hK
theorem taddI_spec {x y : Int} {a b : Nat} (gl : Gl h) (hx : ZB a x) (hy : ZB b y) (ha : 1 ≤ a ∧ a ≤ 568) (hb : 1 ≤ b ∧ b ≤ 568) (hK : K (.string (bs (txtI (x + y)))) h) : FCall Tryz.prog f_TAdd #[sv x, sv y] h K := by
  have t1 : Tx 568 (txtI x) := Tx.int (hx.mono ha.2) (by omega) (by omega)
  have t2 : Tx 568 (txtI y) := Tx.int (hy.mono hb.2) (by omega) (by omega)
  refine tadd_spec gl t1 t2 (by omega) ?_
  rw [rv_txtI, rv_txtI, ← Rat.intCast_add, ← txtI_eq]; exact hK
theorem eafter_spec {s : CS} {a : Int} {k : Nat} (gl : Gl h) (ha : ZB k a) (h1 : ZB k s.p) (h2 : ZB k s.r) (h3 : ZB k s.p') (h4 : ZB k s.r') (hk1 : 1 ≤ k) (hk : k ≤ 284) (hK : K (.agg #[sv (s.next a).p, sv (s.next a).r]) h) : FCall Tryz.prog f_EAfter #[.agg #[sv s.p, sv s.r], .agg #[sv s.p', sv s.r'], sv a] h K := by
  refine EAfter_ok _ _ _ _ _ ?_
  unfold EAfter
  refine tmulI_spec gl ha h1 (by omega) (by omega) ⟨_, rfl, Heap.le_refl _, ?_⟩
  refine taddI_spec gl h3 (ha.mul h1) (by omega) (by omega) ⟨_, rfl, Heap.le_refl _, ?_⟩
  refine tmulI_spec gl ha h2 (by omega) (by omega) ⟨_, rfl, Heap.le_refl _, ?_⟩
  exact taddI_spec gl h4 (ha.mul h2) (by omega) (by omega) ⟨_, rfl, Heap.le_refl _, hK⟩
theorem enumber_spec {v : Rat} {p r : Int} (h1 : v.num = p) (h2 : (v.den : Int) = r) (hl : (txtI p).length ≤ 10000) (hl2 : (txtI r).length ≤ 10000) (hK : K (qv v) h) : FCall Tryz.prog f_ENumber #[.agg #[sv p, sv r]] h K := by
  subst h1 h2
  refine ENumber_ok _ _ ?_
  unfold ENumber
  have e49 : ((bs (txtI (v.den : Int))).toList == ({ data := #[49] } : ByteArray).toList) = decide (txtI (v.den : Int) = [49]) := bs_beq _ [49]
  rw [e49]
  refine Br.dec (fun e => ?_) (fun e => ?_)
  · rw [← txtI_one] at e
    have hd : v.den = 1 := by have := txtI_inj e; omega
    rw [show qv v = .string (bs (txtQ v)) from rfl, txtQ_int hd] at hK
    exact hK
  · have hd : v.den ≠ 1 := fun e0 => e (by rw [e0]; exact txtI_one)
    rw [show qv v = .string (bs (txtQ v)) from rfl, txtQ_frac hd] at hK
    have e47 : ({ data := #[47] } : ByteArray) = bs [47] := rfl
    rw [e47, bs_append, bs_append, bs_size, bs_size, bs_size, bs_size]
    exact ⟨by simp; omega, by simp; omega, hK⟩
end
end Go.Proofs.YtgnclfejnndicaaGreatDoor
/-
  The tape; the law NearestLeast.
-/
namespace Go.Proofs.YtgnclfejnndicaaGreatDoor
open Go
set_option maxRecDepth 20000
def Tp (h g : Heap) (p : Option Addr) (xs : List Int) : Prop :=
  ∃ (b : Nat) (A : Option Addr) (c k : Nat), p = some ⟨b, 0, none⟩ ∧ g b = none ∧ h = g.put b (.cells #[.slice A xs.length c, I (k : Int)] 94) ∧ k ≤ xs.length ∧ xs.length ≤ 400 ∧ SlI .i64 g A xs
theorem Tp.le {h g : Heap} {p : Option Addr} {xs : List Int} (t : Tp h g p xs) : g.le h := by
  obtain ⟨b, A, c, k, _, hb, rfl, _⟩ := t
  exact Heap.le_put _ hb
theorem Tp.after {h g h' : Heap} {p : Option Addr} {xs : List Int} (t : Tp h g p xs) (l : h.le h') : ∃ g', g.le g' ∧ Tp h' g' p xs := by
  obtain ⟨b, A, c, k, hp, hb, rfl, hk, hl, s⟩ := t
  obtain ⟨g', l1, hb', rfl⟩ := Heap.after_put hb l
  exact ⟨g', l1, b, A, c, k, hp, hb', rfl, hk, hl, s.mono l1⟩
theorem Tp.call {P : Program} {f : FuncId} {args : Array Value} {h g : Heap} {p : Option Addr} {xs : List Int} (t : Tp h g p xs) {K : Value → Heap → Prop} (x : FCall P f args g (fun r h0 => g.le h0 ∧ ∀ h', h.le h' → Tp h' h0 p xs → K r h')) : FCall P f args h K := by
  obtain ⟨b, A, c, k, hp, hb, rfl, hk, hl, s⟩ := t
  refine FCall.frame hb x fun r h0 h0b hk2 => ?_
  obtain ⟨l0, hk3⟩ := hk2
  refine hk3 _ ?_ ⟨b, A, c, k, hp, h0b, rfl, hk, hl, s.mono l0⟩
  intro j o hj
  by_cases hjb : j = b
  · subst hjb; rw [Heap.put_same] at hj ⊢; exact hj
  · rw [Heap.put_other _ _ hjb] at hj ⊢; exact l0 j o hj
theorem box_ok {P : Program} {t : TypeId} {v : Value} {K : Value → Heap → Prop} {h : Heap} (x : ∀ b, h b = none → K (.pointer (some ⟨b, 0, none⟩)) (h.put b (.cells v.cells t))) : wpH P (Instr.box t v) K h := by
  unfold Instr.box newVar
  simp only [wpH_bind_eq, wpH_newRow, wpH_pure]
  exact x
section
variable {h g : Heap} {K : Value → Heap → Prop} {A : Option Addr} {xs : List Int}
end
end Go.Proofs.YtgnclfejnndicaaGreatDoor
/-
  Best approximations: plain, no program here.
-/
namespace Go.Proofs.YtgnclfejnndicaaGreatDoor
open Go
theorem between_big {p r u v p2 r2 : Int} (hr : 0 < r) (hr2 : 0 < r2) (hv : 0 < v) (hdet : p * r2 - p2 * r = 1 ∨ p * r2 - p2 * r = -1) (hb : (0 < u * r - p * v ∧ 0 < p2 * v - u * r2) ∨ (u * r - p * v < 0 ∧ p2 * v - u * r2 < 0)) : r + r2 ≤ v := by
  have key : (u * r - p * v) * r2 + (p2 * v - u * r2) * r = -(p * r2 - p2 * r) * v := by grind
  rcases hb with ⟨h1, h2⟩ | ⟨h1, h2⟩
  · have m1 : 1 * r2 ≤ (u * r - p * v) * r2 := Int.mul_le_mul_of_nonneg_right (by omega) (by omega)
    have m2 : 1 * r ≤ (p2 * v - u * r2) * r := Int.mul_le_mul_of_nonneg_right (by omega) (by omega)
    rcases hdet with hd | hd <;> rw [hd] at key <;> omega
  · have m1 : (u * r - p * v) * r2 ≤ (-1) * r2 := Int.mul_le_mul_of_nonneg_right (by omega) (by omega)
    have m2 : (p2 * v - u * r2) * r ≤ (-1) * r := Int.mul_le_mul_of_nonneg_right (by omega) (by omega)
    rcases hdet with hd | hd <;> rw [hd] at key <;> omega
theorem gap {c e y : Rat} {L : Nat} (hdet : c.num * e.den - e.num * c.den = 1 ∨ c.num * e.den - e.num * c.den = -1) (hL : L < c.den + e.den) (hy : y.den ≤ L) : ¬ ((c < y ∧ y < e) ∨ (e < y ∧ y < c)) := by
  intro hb
  have hc := c.den_nz
  have he := e.den_nz
  have hyd := y.den_nz
  have := between_big (p := c.num) (r := c.den) (u := y.num) (v := y.den) (p2 := e.num) (r2 := e.den) (by omega) (by omega) (by omega) hdet (by
    rcases hb with ⟨h1, h2⟩ | ⟨h1, h2⟩
    · left
      have a := (Rat.lt_iff c y).1 h1
      have b := (Rat.lt_iff y e).1 h2
      omega
    · right
      have a := (Rat.lt_iff e y).1 h1
      have b := (Rat.lt_iff y c).1 h2
      omega)
  omega
theorem near_two {c e y q : Rat} {L : Nat} (hdet : c.num * e.den - e.num * c.den = 1 ∨ c.num * e.den - e.num * c.den = -1) (hL : L < c.den + e.den) (hq : (c < q ∧ q < e) ∨ (e < q ∧ q < c)) (hy : y.den ≤ L) : (ab (c - q) < ab (y - q) ∨ y = c) ∨ (ab (e - q) < ab (y - q) ∨ y = e) := by
  have hg := gap hdet hL hy
  rcases hq with ⟨h1, h2⟩ | ⟨h1, h2⟩
  · by_cases h3 : y ≤ c
    · left
      by_cases h4 : y = c
      · exact .inr h4
      · left
        unfold ab
        rw [if_pos (by grind), if_pos (by grind)]; grind
    · right
      by_cases h4 : y = e
      · exact .inr h4
      · left
        have h5 : e < y := by
          have : ¬ y < e := fun h6 => hg (.inl ⟨Rat.not_le.1 h3, h6⟩)
          grind
        unfold ab
        rw [if_neg (by grind), if_neg (by grind)]; grind
  · by_cases h3 : c ≤ y
    · left
      by_cases h4 : y = c
      · exact .inr h4
      · left
        unfold ab
        rw [if_neg (by grind), if_neg (by grind)]; grind
    · right
      by_cases h4 : y = e
      · exact .inr h4
      · left
        have h5 : y < e := by
          have : ¬ e < y := fun h6 => hg (.inr ⟨h6, Rat.not_le.1 h3⟩)
          grind
        unfold ab
        rw [if_pos (by grind), if_pos (by grind)]; grind
def bett (q a b : Rat) : Prop := ab (a - q) < ab (b - q) ∨ (ab (a - q) = ab (b - q) ∧ (a.den < b.den ∨ (a.den = b.den ∧ a ≤ b)))
structure IsBest (q : Rat) (L : Nat) (v : Rat) : Prop where
  den : v.den ≤ L
  best : ∀ y : Rat, y.den ≤ L → bett q v y
theorem bett_anti {q a b : Rat} (h1 : bett q a b) (h2 : bett q b a) : a = b := by
  unfold bett at h1 h2
  rcases h1 with h1 | ⟨h1, h3⟩
  · rcases h2 with h2 | ⟨h2, _⟩ <;> grind
  · rcases h2 with h2 | ⟨_, h4⟩
    · grind
    · rcases h3 with h3 | ⟨h3, h5⟩ <;> rcases h4 with h4 | ⟨h4, h6⟩
      · omega
      · omega
      · omega
      · exact Rat.le_antisymm h5 h6
theorem IsBest.unique {q a b : Rat} {L : Nat} (ha : IsBest q L a) (hb : IsBest q L b) : a = b := bett_anti (ha.best b hb.den) (hb.best a ha.den)
theorem IsBest.own {q : Rat} {L : Nat} (h : q.den ≤ L) : IsBest q L q := by
  refine ⟨h, fun y hy => ?_⟩
  unfold bett
  have e0 : ab (q - q) = 0 := by
    have : q - q = 0 := by grind
    rw [this]; simp [ab]
  by_cases hyq : y = q
  · subst hyq; right; exact ⟨rfl, .inr ⟨rfl, Rat.le_refl⟩⟩
  · left
    rw [e0]
    unfold ab; split <;> grind
theorem IsBest.mono {q a b : Rat} {L M : Nat} (ha : IsBest q L a) (hb : IsBest q M b) (h : L ≤ M) : ab (b - q) ≤ ab (a - q) := by
  have := hb.best a (Nat.le_trans ha.den h)
  unfold bett at this
  grind
theorem best_of_two {c e q v : Rat} {L : Nat} (hdet : c.num * e.den - e.num * c.den = 1 ∨ c.num * e.den - e.num * c.den = -1) (hL : L < c.den + e.den) (hq : (c < q ∧ q < e) ∨ (e < q ∧ q < c)) (hc : c.den ≤ L) (he : e.den ≤ L) (hv : (v = c ∧ bett q c e) ∨ (v = e ∧ bett q e c)) : IsBest q L v := by
  have hrefl : ∀ a, bett q a a := fun a => .inr ⟨rfl, .inr ⟨rfl, Rat.le_refl⟩⟩
  refine ⟨by rcases hv with ⟨rfl, _⟩ | ⟨rfl, _⟩ <;> assumption, fun y hy => ?_⟩
  have h2 := near_two hdet hL hq hy
  have le_of : ∀ a b, bett q a b → ab (a - q) ≤ ab (b - q) := by
    intro a b h; unfold bett at h; grind
  rcases hv with ⟨rfl, hb⟩ | ⟨rfl, hb⟩
  · rcases h2 with (h | rfl) | (h | rfl)
    · exact .inl h
    · exact hrefl _
    · left; have := le_of _ _ hb; grind
    · exact hb
  · rcases h2 with (h | rfl) | (h | rfl)
    · left; have := le_of _ _ hb; grind
    · exact hb
    · exact .inl h
    · exact hrefl _
theorem CV.two {s : CS} {q x : Rat} (i : CV s q x) (hr : 0 < s.r) {t : Int} (ht0 : 0 ≤ t) (htx : (t : Rat) < x) (hr2 : 0 < s.r' + t * s.r) : let c := (s.p : Rat) / s.r; let e := ((s.next t).p : Rat) / (s.next t).r; (c.num * e.den - e.num * c.den = 1 ∨ c.num * e.den - e.num * c.den = -1) ∧ (c.den : Int) = s.r ∧ (e.den : Int) = s.r' + t * s.r ∧ ((c < q ∧ q < e) ∨ (e < q ∧ q < c)) := by
  intro c e
  obtain ⟨c1, c2⟩ := CS.parts i.det hr
  have hdet := CS.det_next t i.det
  obtain ⟨e1, e2⟩ := CS.parts hdet hr2
  have hnp : (s.next t).p' = s.p := rfl
  have hnr : (s.next t).r' = s.r := rfl
  have hrr : (s.next t).r = s.r' + t * s.r := rfl
  have hpp : (s.next t).p = s.p' + t * s.p := rfl
  refine ⟨?_, c2, by rw [e2]; rfl, ?_⟩
  · show c.num * (e.den : Int) - e.num * (c.den : Int) = 1 ∨ _
    rw [c1, c2, e1, e2]
    rw [hnp, hnr] at hdet
    omega
  · have hrR : (0 : Rat) < s.r := Rat.intCast_pos.2 hr
    have hr2R : (0 : Rat) < ((s.next t).r : Rat) := Rat.intCast_pos.2 hr2
    have hc : c * s.r = s.p := Rat.div_mul_cancel (by grind)
    have he : e * (s.next t).r = (s.next t).p := Rat.div_mul_cancel (by grind)
    have heq := i.csi.eq
    have hx0 : 0 < x := by
      have : (0 : Rat) ≤ (t : Rat) := Rat.intCast_nonneg.2 ht0
      grind
    have hr'R : (0 : Rat) ≤ s.r' := Rat.intCast_nonneg.2 i.r0.2.1
    have hD : 0 < (s.r : Rat) * x + s.r' := by have := Rat.mul_pos hrR hx0; grind
    rw [hrr, hpp, Rat.intCast_add, Rat.intCast_mul, Rat.intCast_add, Rat.intCast_mul] at he
    rw [hrr, Rat.intCast_add, Rat.intCast_mul] at hr2R
    have hdR : (s.p * s.r' - s.p' * s.r : Rat) = 1 ∨ (s.p * s.r' - s.p' * s.r : Rat) = -1 := by
      rcases i.det with h | h
      · left; rw [← Rat.intCast_mul, ← Rat.intCast_mul, ← Rat.intCast_sub, h]; rfl
      · right; rw [← Rat.intCast_mul, ← Rat.intCast_mul, ← Rat.intCast_sub, h]; rfl
    have k1 : (q - c) * (s.r * (s.r * x + s.r')) = -(s.p * s.r' - s.p' * s.r) := by grind
    have k2 : (q - e) * ((s.r' + t * s.r) * (s.r * x + s.r')) = (s.p * s.r' - s.p' * s.r) * (x - t) := by grind
    have m1 : 0 < (s.r : Rat) * (s.r * x + s.r') := Rat.mul_pos hrR hD
    have m2 : 0 < ((s.r' : Rat) + t * s.r) * (s.r * x + s.r') := Rat.mul_pos hr2R hD
    have hxt : 0 < x - t := by grind
    have pos : ∀ {a m : Rat}, 0 < m → 0 < a * m → 0 < a := fun hm h => (Rat.mul_pos_iff_of_pos_right hm).1 h
    rcases hdR with h | h
    · right
      rw [h] at k1 k2
      constructor
      · have : 0 < q - e := pos m2 (by rw [k2]; grind)
        grind
      · have : 0 < c - q := pos m1 (by grind)
        grind
    · left
      rw [h] at k1 k2
      constructor
      · have : 0 < q - c := pos m1 (by rw [k1]; grind)
        grind
      · have : 0 < e - q := pos m2 (by grind)
        grind
end Go.Proofs.YtgnclfejnndicaaGreatDoor
