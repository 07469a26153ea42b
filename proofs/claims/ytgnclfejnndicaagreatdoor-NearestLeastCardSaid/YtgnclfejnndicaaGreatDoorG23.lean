/-
  Texts of this proof, merged by a program of ours: NearD, NearE, CardA, NearF, NearG, NearH, NearJ, NearK, NearI.
-/
import Derived.Test.YtgnclfejnndicaaGreatDoorG21
import Derived.Test.YtgnclfejnndicaaGreatDoorG22
import Derived.Test.YtgnclfejnndicaaGreatDoorRows
import Derived.Below
import Derived.LaidLaws
import Derived.Lib.LaidTab
/-
  simplest: the program's and the reference's.
-/
namespace Go.Proofs.YtgnclfejnndicaaGreatDoor
open Go
set_option maxRecDepth 20000
theorem sgnQ_lt {q : Rat} : q.num.sign < 0 ↔ q < 0 := by rw [Int.sign_neg_iff, Rat.lt_iff]; simp
theorem sgnQ_gt {q : Rat} : 0 < q.num.sign ↔ 0 < q := by rw [Int.sign_pos_iff, Rat.lt_iff]; simp
theorem sgnQ_le {q : Rat} : q.num.sign ≤ 0 ↔ q ≤ 0 := by rw [← Rat.not_lt, ← sgnQ_gt]; omega
theorem txtI_eq (z : Int) : txtI z = txtQ (z : Rat) := by rw [txtQ_int (by simp), Rat.num_intCast]
theorem step_sz {m : Nat} {q : Rat} {f : Int} (h : Sz m q) (h1 : (f : Rat) < q) (h2 : q < f + 1) : Sz m (q - f) ∧ Sz m (q - f)⁻¹ := by
  obtain ⟨a, b, c, _⟩ := cf_step h1 h2
  obtain ⟨d, e⟩ := sub_int q f
  have hd := h.den
  refine ⟨⟨?_, by rw [e]; exact hd⟩, ⟨by rw [a]; exact hd, ?_⟩⟩
  · rw [d, ← b]; exact hd.le (by rw [Int.natAbs_natCast, Int.natAbs_natCast]; omega)
  · exact hd.le (by rw [Int.natAbs_natCast, Int.natAbs_natCast]; omega)
theorem floor_sz {m : Nat} {q : Rat} (h : Sz m q) (hm : 1 ≤ m) : Sz m (q.floor : Rat) := Sz.int (floor_zb h) hm
theorem ceil_zb {m : Nat} {q : Rat} (h : Sz m q) : ZB m q.ceil := by
  rw [Rat.ceil_eq_neg_floor_neg]; exact (floor_zb h.neg).neg
theorem ceil_sz {m : Nat} {q : Rat} (h : Sz m q) (hm : 1 ≤ m) : Sz m (q.ceil : Rat) := Sz.int (ceil_zb h) hm
section
variable {h : Heap} {K : Value → Heap → Prop} {m : Nat} {a b w : QV} {p q : Rat}
theorem einverse_spec (gl : Gl h) (hq : Sz m q) (hm1 : 1 ≤ m) (hm : m ≤ 283) (h0 : q ≠ 0) (hK : K (.string (bs (txtQ q⁻¹))) h) : FCall Tryz.prog f_EInverse #[.string (bs (txtQ q))] h K := by
  refine EInverse_ok _ ?_
  unfold EInverse
  have e1 : txtQ 1 = [49] := by simp [txtQ, txtI, digs, dd_pos, dd_zero, dch]
  show FCall _ _ #[.string (bs [49]), _] _ _
  rw [← e1]
  refine tdiv_spec gl (Tx.of (Sz.int (z := 1) (ZB.one hm1) hm1) hm) (Tx.of hq hm) hm1 (by omega) ?_ ?_
  · intro _
    rw [rv_txt, rv_txt, Rat.div_def]
    refine ⟨_, _, rfl, ?_⟩
    have e2 : ((1 : Int) : Rat) * q⁻¹ = q⁻¹ := by rw [Rat.intCast_one, Rat.one_mul]
    first
    | (rw [e2]; exact hK)
    | (rw [Rat.one_mul]; exact hK)
  · intro e; rw [rv_txt] at e; exact absurd e h0
theorem esimplest_pos : ∀ n (lo hi : Rat) (h : Heap) (K : Value → Heap → Prop), lo.den + hi.den ≤ n → Gl h → 0 < lo → lo ≤ hi → Sz m lo → Sz m hi → 1 ≤ m → m ≤ 280 → K (.string (bs (txtQ (simpP lo hi)))) h → FCall Tryz.prog f_ESimplest #[.string (bs (txtQ lo)), .string (bs (txtQ hi))] h K := by
  intro n
  induction n with
  | zero => intro lo hi h K hn; have := lo.den_nz; omega
  | succ n ih =>
    intro lo hi h K hn gl h0 hle sl sh hm1 hm hK
    have hhi : 0 < hi := Std.lt_of_lt_of_le h0 hle
    have tl := Tx.of sl (by omega)
    have th := Tx.of sh (by omega)
    refine ESimplest_ok _ _ ?_
    unfold ESimplest
    refine tsign_spec gl th.len ⟨_, rfl, Br.dec (fun e => ?_) (fun _ => ?_)⟩
    · rw [rv_txt, sgnQ_lt] at e; exfalso; grind
    refine tsign_spec gl tl.len ⟨_, rfl, Br.dec (fun e => ?_) (fun _ => ?_)⟩
    · rw [rv_txt, sgnQ_le] at e; exfalso; grind
    refine tceil_spec gl tl (by omega) ⟨_, rfl, ?_⟩
    rw [rv_txt, txtI_eq]
    refine tcompare_spec gl (Tx.of (ceil_sz sl hm1) (by omega)) th (by omega) ⟨_, rfl, Br.dec (fun e => ?_) (fun e => ?_)⟩
    · rw [rv_txt, rv_txt, cmpQ_le] at e
      rw [simpP_int e] at hK
      exact hK
    · rw [rv_txt, rv_txt, cmpQ_le] at e
      obtain ⟨f1, f2, f3⟩ := no_int (fun x => x.elim e (fun y => y hle))
      rw [simpP_step e hle] at hK
      refine tfloor_spec gl tl (by omega) ⟨_, rfl, ?_⟩
      rw [rv_txt, txtI_eq]
      have sf := floor_sz sl hm1
      have tf := Tx.of sf (by omega)
      obtain ⟨sl1, sl2⟩ := step_sz sl f1 (Std.lt_of_le_of_lt f2 f3)
      obtain ⟨sh1, sh2⟩ := step_sz sh (Std.lt_of_lt_of_le f1 f2) f3
      obtain ⟨_, _, d1, x1⟩ := cf_step f1 (Std.lt_of_le_of_lt f2 f3)
      obtain ⟨_, _, d2, x2⟩ := cf_step (Std.lt_of_lt_of_le f1 f2) f3
      refine tsub_spec gl th tf (by omega) ⟨_, rfl, ?_⟩
      rw [rv_txt, rv_txt]
      refine einverse_spec gl sh1 hm1 (by omega) (by grind) ⟨_, rfl, ?_⟩
      refine tsub_spec gl tl tf (by omega) ⟨_, rfl, ?_⟩
      rw [rv_txt, rv_txt]
      refine einverse_spec gl sl1 hm1 (by omega) (by grind) ⟨_, rfl, ?_⟩
      have hord : (hi - lo.floor)⁻¹ ≤ (lo - lo.floor)⁻¹ := inv_le_inv (by grind) (by grind)
      have hp0 : 0 < (hi - lo.floor)⁻¹ := by grind
      refine ih _ _ _ _ (by omega) gl hp0 hord sh2 sl2 hm1 hm ⟨_, rfl, ?_⟩
      have sx := simpP_sz hp0 hord sh2
      have hx := (simpP_in hp0 hord).1
      generalize simpP (hi - lo.floor)⁻¹ (lo - lo.floor)⁻¹ = x at *
      refine einverse_spec gl sx hm1 (by omega) (by grind) ⟨_, rfl, ?_⟩
      refine tadd_spec gl tf (Tx.of (sx.inv hm1) (by omega)) (by omega) ⟨_, rfl, ?_⟩
      rw [rv_txt, rv_txt]; exact hK
theorem esimplest_spec {lo hi : Rat} (gl : Gl h) (hle : lo ≤ hi) (sl : Sz m lo) (sh : Sz m hi) (hm1 : 1 ≤ m) (hm : m ≤ 280) (hK : K (.string (bs (txtQ (simp1 lo hi)))) h) : FCall Tryz.prog f_ESimplest #[.string (bs (txtQ lo)), .string (bs (txtQ hi))] h K := by
  unfold simp1 at hK
  have tl := Tx.of sl (by omega)
  have th := Tx.of sh (by omega)
  by_cases hneg : hi < 0
  · rw [if_pos hneg] at hK
    refine ESimplest_ok _ _ ?_
    unfold ESimplest
    refine tsign_spec gl th.len ⟨_, rfl, Br.dec (fun _ => ?_) (fun e => ?_)⟩
    · refine tneg_spec gl th.len ⟨_, rfl, tneg_spec gl tl.len ⟨_, rfl, ?_⟩⟩
      rw [rv_txt, rv_txt]
      have hp0 : 0 < -hi := by grind
      have hord : -hi ≤ -lo := by grind
      refine esimplest_pos _ _ _ _ _ (Nat.le_refl _) gl hp0 hord sh.neg sl.neg hm1 hm ⟨_, rfl, ?_⟩
      have sx := simpP_sz hp0 hord sh.neg
      refine tneg_spec gl (Tx.of sx (by omega)).len ⟨_, rfl, ?_⟩
      rw [rv_txt]; exact hK
    · rw [rv_txt, sgnQ_lt] at e; exact absurd hneg e
  · rw [if_neg hneg] at hK
    by_cases hlo : lo ≤ 0
    · rw [if_pos hlo, txtQ0] at hK
      refine ESimplest_ok _ _ ?_
      unfold ESimplest
      refine tsign_spec gl th.len ⟨_, rfl, Br.dec (fun e => ?_) (fun _ => ?_)⟩
      · rw [rv_txt, sgnQ_lt] at e; exact absurd e hneg
      refine tsign_spec gl tl.len ⟨_, rfl, Br.dec (fun _ => hK) (fun e => ?_)⟩
      rw [rv_txt, sgnQ_le] at e; exact absurd hlo e
    · rw [if_neg hlo] at hK
      exact esimplest_pos _ _ _ _ _ (Nat.le_refl _) gl (Rat.not_le.1 hlo) hle sl sh hm1 hm hK
theorem esimplest1_spec {x y : List UInt8} (gl : Gl h) (hx : x.length ≤ 570) (hy : y.length ≤ 570) (sx : Sz m (rv x)) (sy : Sz m (rv y)) (hm1 : 1 ≤ m) (hm : m ≤ 280) (hK : ∀ (r : List UInt8) (e : Int), (¬ (IsNum x ∧ IsNum y) → r = [] ∧ e = 1) → (IsNum x → IsNum y → rv y < rv x → r = [] ∧ e = 3) → (IsNum x → IsNum y → rv x ≤ rv y → r = txtQ (simp1 (rv x) (rv y)) ∧ e = 0) → K (.tuple #[.string (bs r), I e]) h) : FCall Tryz.prog f_ESimplest1 #[.string (bs x), .string (bs y)] h K := by
  refine ESimplest1_ok _ _ ?_
  unfold ESimplest1
  refine ⟨fun L hp => hp = h ∧ ∃ t : Bool, L = [.bool t] ∧ (t = true ↔ ¬ (IsNum x ∧ IsNum y)), valid_spec gl hx (fun e => ?_) (fun e => ?_), ?_⟩
  · refine ⟨_, rfl, Br.not (valid_spec gl hy (fun e2 => ?_) (fun e2 => ?_))⟩
    · exact ⟨_, rfl, rfl, false, rfl, by simp [e, e2]⟩
    · exact ⟨_, rfl, rfl, true, rfl, by simp [e2]⟩
  · exact ⟨_, rfl, Br.not ⟨rfl, true, rfl, by simp [e]⟩⟩
  rintro t13 hp2 ⟨rfl, t, hL, ht⟩
  obtain rfl : t13 = t := by simpa using hL
  refine Br.of (fun e => ?_) (fun e => ?_)
  · have := ht.1 e
    exact hK [] 1 (fun _ => ⟨rfl, rfl⟩) (fun a b => absurd ⟨a, b⟩ this) (fun a b => absurd ⟨a, b⟩ this)
  · have hxy : IsNum x ∧ IsNum y := by
      apply Classical.byContradiction
      intro hn
      rw [ht.2 hn] at e; cases e
    refine tcompare_spec gl ⟨hy, sy⟩ ⟨hx, sx⟩ (by omega) ⟨_, rfl, Br.dec (fun e1 => ?_) (fun e1 => ?_)⟩
    · rw [cmpQ_lt] at e1
      exact hK [] 3 (fun a => absurd hxy a) (fun _ _ _ => ⟨rfl, rfl⟩) (fun _ _ a => absurd e1 (Rat.not_lt.2 a))
    · rw [cmpQ_lt, Rat.not_lt] at e1
      have ex := txt_rv hxy.1
      have ey := txt_rv hxy.2
      have key := esimplest_spec (K := fun r3 hp4 => ∃ (t20 : ByteArray), r3 = .string t20 ∧ K (.tuple #[.string t20, I (0 : Int)]) hp4) gl e1 sx sy hm1 hm ⟨_, rfl, hK _ 0 (fun a => absurd hxy a) (fun _ _ a => absurd a (Rat.not_lt.2 e1)) (fun _ _ _ => ⟨rfl, rfl⟩)⟩
      rw [ex, ey] at key
      exact key
end
end Go.Proofs.YtgnclfejnndicaaGreatDoor
/-
  The law NearestSimplest.
-/
namespace Go.Proofs.YtgnclfejnndicaaGreatDoor
open Go
set_option maxRecDepth 20000
def LawK (h : Heap) (r : Value) (h' : Heap) : Prop := r = .bool true ∧ h.le h'
theorem known_simp : simp1 (mkRat 3 10) (mkRat 2 5) = mkRat 1 3 := by
  unfold simp1
  rw [if_neg (by decide +kernel), if_neg (by decide +kernel), simpP_step (by decide +kernel) (by decide +kernel)]
  have e1 : (mkRat 3 10).floor = 0 := by decide +kernel
  have e2 : (mkRat 2 5 - ((0 : Int) : Rat))⁻¹ = mkRat 5 2 := by decide +kernel
  have e3 : (mkRat 3 10 - ((0 : Int) : Rat))⁻¹ = mkRat 10 3 := by decide +kernel
  rw [e1, e2, e3, simpP_int (by decide +kernel)]
  decide +kernel
theorem txt310 : txtQ (mkRat 3 10) = [51, 47, 49, 48] := by
  have h1 : (mkRat 3 10).num = 3 := by decide +kernel
  have h2 : (mkRat 3 10).den = 10 := by decide +kernel
  simp [txtQ, txtI, h1, h2, digs, dd_pos, dd_zero, dch]
theorem txt25 : txtQ (mkRat 2 5) = [50, 47, 53] := by
  have h1 : (mkRat 2 5).num = 2 := by decide +kernel
  have h2 : (mkRat 2 5).den = 5 := by decide +kernel
  simp [txtQ, txtI, h1, h2, digs, dd_pos, dd_zero, dch]
theorem txt13 : txtQ (mkRat 1 3) = [49, 47, 51] := by
  have h1 : (mkRat 1 3).num = 1 := by decide +kernel
  have h2 : (mkRat 1 3).den = 3 := by decide +kernel
  simp [txtQ, txtI, h1, h2, digs, dd_pos, dd_zero, dch]
section
variable {h : Heap} {K : Value → Heap → Prop} {x y : List UInt8}
theorem known_spec (gl : Gl h) (hK : K (.bool true) h) : FCall Tryz.prog f_LKnown #[] h K := by
  refine LKnown_ok ?_
  unfold LKnown
  show FCall _ _ #[.string (bs [51, 47, 49, 48]), .string (bs [50, 47, 53])] _ _
  rw [← txt310, ← txt25]
  have s1 : Sz 8 (rv (txtQ (mkRat 3 10))) := by rw [rv_txt]; exact ⟨by unfold ZB; decide +kernel, by unfold ZB; decide +kernel⟩
  have s2 : Sz 8 (rv (txtQ (mkRat 2 5))) := by rw [rv_txt]; exact ⟨by unfold ZB; decide +kernel, by unfold ZB; decide +kernel⟩
  refine esimplest1_spec gl (by rw [txt310]; decide) (by rw [txt25]; decide) s1 s2 (by decide) (by decide) ?_
  intro r e _ _ k3
  have hle : rv (txtQ (mkRat 3 10)) ≤ rv (txtQ (mkRat 2 5)) := by rw [rv_txt, rv_txt]; decide +kernel
  obtain ⟨rfl, rfl⟩ := k3 ⟨_, rfl⟩ ⟨_, rfl⟩ hle
  rw [rv_txt, rv_txt, known_simp, txt13]
  refine ⟨_, _, rfl, Br.beq (fun _ => ?_) (fun e => absurd rfl e)⟩
  have : ((bs [49, 47, 51]).toList == ({ data := #[49, 47, 51] } : ByteArray).toList) = true := by rw [show ({ data := #[49, 47, 51] } : ByteArray) = bs [49, 47, 51] from rfl, bs_beq]; simp
  rw [this]; exact hK
end
end Go.Proofs.YtgnclfejnndicaaGreatDoor
/-
  From the world of a statement to the visible heap of the walks; the tables that the statement lists.
-/
namespace Go.Proofs.YtgnclfejnndicaaGreatDoor
open Go Go.RowKit
set_option maxRecDepth 20000
def memOf (W : World) : Heap := fun b => W.heap[b]?
theorem frame_of {P : Program} {f : FuncId} {args : Array Value} {W : World} (x : FCall P f args (memOf W) (LawK (memOf W))) : Calls P f args W fun e w' => e = .returned (.bool true) ∧ Below W.heap.size W w' := by
  refine (x W (fun b o e => e)).mono ?_
  rintro e W' ⟨r, h', he, ⟨hr, hle⟩, fr⟩
  subst hr
  refine ⟨he, fr.os, fr.tape, fr.output, fr.size, fun k hk => ?_⟩
  have e0 : memOf W k = some W.heap[k] := Array.getElem?_eq_getElem hk
  have := fr.sim k _ (hle k _ e0)
  rw [this]; exact e0.symm
theorem memOf_cell {W : World} {a : Addr} {v : Value} (e : W.cell? a = some v) : (memOf W).cell? a = some v := by
  unfold World.cell? at e
  unfold Heap.cell? memOf
  exact e
theorem wf_bnd {n : Int} (h : (Lit.int .i64 n).wf = true) : -9223372036854775808 ≤ n ∧ n ≤ 9223372036854775807 := by
  simp only [Lit.wf, Bool.and_eq_true, decide_eq_true_eq] at h
  exact h
theorem row_of {W : World} {a : Option Addr} {len cap : Nat} {zs : List Int} (w : (a = none ∧ len = 0 ∧ cap = 0 ∧ zs = []) ∨
    ∃ x, a = some x ∧ len ≤ cap ∧ cap ≤ maxLen ∧ zs.length = cap ∧ (∀ i, i < zs.length → W.cell? (x.add i) = some (.int .i64 (zs.getD i 0))) ∧ ∀ n ∈ zs, (Lit.int .i64 n).wf = true) : ∃ xs : List Int, len = xs.length ∧ len ≤ cap ∧ SlI .i64 (memOf W) a xs ∧ ∀ n ∈ xs, (Lit.int .i64 n).wf = true := by
  rcases w with ⟨rfl, rfl, rfl, rfl⟩ | ⟨x, rfl, h1, h2, h3, h4, h5⟩
  · exact ⟨[], rfl, Nat.le_refl _, SlI.nil, by simp⟩
  · refine ⟨zs.take len, by simp; omega, h1, .inr ⟨x, rfl, fun i v hv => ?_⟩, fun n hn => h5 n (List.mem_of_mem_take hn)⟩
    rw [List.getElem?_map] at hv
    cases hz : (zs.take len)[i]? with
    | none => rw [hz] at hv; cases hv
    | some n =>
      rw [hz] at hv
      cases hv
      rw [List.getElem?_take] at hz
      split at hz
      · have hi : i < zs.length := by
          by_cases hi : i < zs.length
          · exact hi
          · rw [List.getElem?_eq_none (by omega)] at hz; cases hz
        have := memOf_cell (h4 i hi)
        rw [this]
        simp only [List.getD, hz, Option.getD_some]
      · cases hz
theorem laidTail {P : Program} {W : World} {x : String × DataW Unit} {rest : List (String × DataW Unit)} (h : laidMet P (x :: rest) W) : laidMet P rest W := by
  obtain ⟨n, d⟩ := x
  obtain ⟨ps, ⟨g, t, cs, fuel, p, q, h1, h2, h3, h4, h5, rfl⟩, h6, h7⟩ := h
  exact ⟨q, h5, (List.nodup_append.1 h6).2.1, fun b off hb => h7 b off (List.mem_append_right _ hb)⟩
def tab32 : List Int := [0, 1, 28, 2, 29, 14, 24, 3, 30, 22, 20, 15, 25, 17, 4, 8, 31, 27, 13, 23, 21, 19, 16, 7, 26, 12, 18, 6, 11, 5, 10, 9]
def tab64 : List Int := [0, 1, 56, 2, 57, 49, 28, 3, 61, 58, 42, 50, 38, 29, 17, 4, 62, 47, 59, 36, 45, 43, 51, 22, 53, 39, 33, 30, 24, 18, 12, 5, 63, 55, 48, 27, 60, 41, 37, 16, 46, 35, 44, 21, 52, 32, 23, 11, 54, 26, 40, 15, 34, 20, 31, 10, 25, 14, 19, 9, 13, 8, 7, 6]
def tab10 : List Int := [1, 10, 100, 1000, 10000, 100000, 1000000, 10000000, 100000000, 1000000000, 10000000000, 100000000000, 1000000000000, 10000000000000, 100000000000000, 1000000000000000, 10000000000000000, 100000000000000000, 1000000000000000000, 10000000000000000000]
theorem gTab64 : Tryz.prog.globalNamed "math/bits.deBruijn64tab" = some 1 := by kernel_rfl
theorem gTab10 : Tryz.prog.globalNamed "internal/strconv.uint64pow10" = some 4 := by kernel_rfl
theorem tabs_gl {W : World} (h : laidMet Tryz.prog [("math/bits.deBruijn32tab", Rows.laid_math_bits_deBruijn32tab), ("math/bits.deBruijn64tab", Rows.laid_math_bits_deBruijn64tab), ("internal/strconv.uint64pow10", Rows.laid_internal_strconv_uint64pow10)] W) : Gl (memOf W) := by
  have h2 := laidTail h
  have h3 := laidTail h2
  have t64 : Lib.TabIs Tryz.prog W "math/bits.deBruijn64tab" .u8 tab64 := Lib.tabIs_of_head (rest := [("internal/strconv.uint64pow10", Rows.laid_internal_strconv_uint64pow10)]) gTab64 (by kernel_rfl) Tryz.underlying263 Tryz.underlying5 (by kernel_rfl) (by kernel_rfl) h2
  have t10 : Lib.TabIs Tryz.prog W "internal/strconv.uint64pow10" .u64 tab10 := Lib.tabIs_of_head (rest := []) gTab10 (by kernel_rfl) Tryz.underlying268 Tryz.underlying98 (by kernel_rfl) (by kernel_rfl) h3
  have k64 : ∀ k, k < 64 → tzIdx k < tab64.length ∧ tab64.getD (tzIdx k) 0 = (k : Int) := by decide +kernel
  have k10 : ∀ k, k < 20 → tab10.getD k 0 = ((10 ^ k : Nat) : Int) := by decide +kernel
  refine ⟨fun k hk => ?_, fun k hk => ?_⟩
  · obtain ⟨a, b⟩ := k64 k hk
    have := memOf_cell (t64.cell gTab64 (tzIdx k) a)
    rw [add_at, Nat.mul_one, Nat.zero_add, this, b]
  · have := memOf_cell (t10.cell gTab10 k (by show k < 20; exact hk))
    rw [add_at, Nat.mul_one, Nat.zero_add, this, k10 k hk]
def layTab (zs : List Int) (k : IntKind) : Obj → Obj
  | .cells _ t frozen => .cells (zs.map (Value.int k)).toArray t frozen
  | o => o
def layTabs (a : Array Obj) : Array Obj := ((a.modify 5 (layTab tab32 .u8)).modify 1 (layTab tab64 .u8)).modify 4 (layTab tab10 .u64)
end Go.Proofs.YtgnclfejnndicaaGreatDoor
/-
  Continued fractions by numerators and denominators: bounds; plain, no program here.
-/
namespace Go.Proofs.YtgnclfejnndicaaGreatDoor
open Go
structure CV (s : CS) (q x : Rat) : Prop where
  det : s.p * s.r' - s.p' * s.r = 1 ∨ s.p * s.r' - s.p' * s.r = -1
  dq : (q.den : Int) = s.r * x.num + s.r' * x.den
  nq : q.num = s.p * x.num + s.p' * x.den
  r0 : 0 ≤ s.r ∧ 0 ≤ s.r' ∧ 0 < s.r + s.r'
theorem CV.init (q : Rat) : CV cs0 q q := ⟨.inl (by decide), by simp [cs0], by simp [cs0], by decide⟩
theorem CV.step {s : CS} {q x : Rat} {a : Int} (i : CV s q x) (ha : 0 ≤ a ∨ s.r = 0) (hx : (a : Rat) < x) (h2 : x < a + 1) : CV (s.next a) q (x - a)⁻¹ := by
  obtain ⟨e1, e2, _, _⟩ := cf_step hx h2
  refine ⟨CS.det_next a i.det, ?_, ?_, ?_⟩
  · rw [e1, e2, i.dq]; simp only [CS.next]; grind
  · rw [e1, e2, i.nq]; simp only [CS.next]; grind
  · have h0 := i.r0
    simp only [CS.next]
    rcases ha with ha | ha
    · have := Int.mul_nonneg ha h0.1
      by_cases h : s.r = 0
      · rw [h]; omega
      · omega
    · rw [ha]; omega
theorem CV.last {s : CS} {q x : Rat} (i : CV s q x) (h : (x.floor : Rat) = x) : (s.next x.floor).r = q.den ∧ (s.next x.floor).p = q.num := by
  have hn : x.num = x.floor := by
    have := congrArg Rat.num h
    simpa using this.symm
  have hd : x.den = 1 := by
    have := congrArg Rat.den h
    simpa using this.symm
  rw [i.dq, i.nq, hn, hd]
  simp only [CS.next]
  constructor <;> grind
theorem CV.bound {s : CS} {q x : Rat} (i : CV s q x) (hx : 1 ≤ x) : s.r ≤ q.den ∧ s.p.natAbs ≤ q.num.natAbs + 1 := by
  have hnd : (x.den : Int) ≤ x.num := by
    have := (Rat.le_iff 1 x).1 hx
    simpa using this
  have hd1 : 1 ≤ (x.den : Int) := by have := x.den_nz; omega
  obtain ⟨r1, r2, r3⟩ := i.r0
  have m1 : s.r * 1 ≤ s.r * x.num := Int.mul_le_mul_of_nonneg_left (by omega) r1
  have m2 : 0 ≤ s.r' * x.den := Int.mul_nonneg r2 (by omega)
  have hr : s.r ≤ q.den := by rw [i.dq]; omega
  refine ⟨hr, ?_⟩
  have hxd : (x.den : Int) ≤ q.den := by
    have k1 : s.r * (x.den : Int) ≤ s.r * x.num := Int.mul_le_mul_of_nonneg_left hnd r1
    have k2 : 1 * (x.den : Int) ≤ (s.r + s.r') * x.den := Int.mul_le_mul_of_nonneg_right (by omega) (by omega)
    rw [Int.add_mul] at k2
    rw [i.dq]; omega
  have hq1 : 1 ≤ (q.den : Int) := by have := q.den_nz; omega
  have key : s.p * q.den = q.num * s.r + (s.p * s.r' - s.p' * s.r) * x.den := by
    rw [i.dq, i.nq]; grind
  have ab1 : (s.p * q.den).natAbs ≤ q.num.natAbs * q.den + q.den := by
    rw [key]
    refine Nat.le_trans (Int.natAbs_add_le _ _) ?_
    have t1 : (q.num * s.r).natAbs ≤ q.num.natAbs * q.den := by
      rw [Int.natAbs_mul]; exact Nat.mul_le_mul_left _ (by omega)
    have t2 : ((s.p * s.r' - s.p' * s.r) * x.den).natAbs ≤ q.den := by
      rw [Int.natAbs_mul]
      have : (s.p * s.r' - s.p' * s.r).natAbs = 1 := by rcases i.det with h | h <;> rw [h] <;> rfl
      rw [this, Nat.one_mul, Int.natAbs_natCast]; omega
    omega
  rw [Int.natAbs_mul, Int.natAbs_natCast] at ab1
  have ab2 : s.p.natAbs * q.den ≤ (q.num.natAbs + 1) * q.den := by rw [Nat.add_mul, Nat.one_mul]; exact ab1
  exact Nat.le_of_mul_le_mul_right ab2 (by have := q.den_nz; omega)
end Go.Proofs.YtgnclfejnndicaaGreatDoor
/-
  Quotients and convergents: the program's.
-/
namespace Go.Proofs.YtgnclfejnndicaaGreatDoor
open Go
set_option maxRecDepth 20000
abbrev sv (a : Int) : Value := .string (bs (txtI a))
abbrev qv (a : Rat) : Value := .string (bs (txtQ a))
theorem rv_txtI (z : Int) : rv (txtI z) = (z : Rat) := by rw [txtI_eq, rv_txt]
theorem Tx.int {m : Nat} {z : Int} (h : ZB m z) (hm1 : 1 ≤ m) (hm : m ≤ 568) : Tx m (txtI z) := ⟨by have := txtI_len h; omega, by rw [rv_txtI]; exact Sz.int h hm1⟩
section
variable {h g : Heap} {K : Value → Heap → Prop} {m : Nat} {q : Rat}
end
end Go.Proofs.YtgnclfejnndicaaGreatDoor
/-
  The law NearestConverges.
-/
namespace Go.Proofs.YtgnclfejnndicaaGreatDoor
open Go
set_option maxRecDepth 20000
section
variable {h g : Heap} {K : Value → Heap → Prop} {m : Nat} {p q : Rat} {a b : QV}
theorem Sz.ab {q : Rat} (h : Sz m q) : Sz m (ab q) := by
  unfold Go.Proofs.YtgnclfejnndicaaGreatDoor.ab; split
  · exact h.neg
  · exact h
end
end Go.Proofs.YtgnclfejnndicaaGreatDoor
/-
  Rows of rational numbers; Texts, SameStrings; the reference's quotients and convergents; the law NearestQuotients.
-/
namespace Go.Proofs.YtgnclfejnndicaaGreatDoor
open Go
set_option maxRecDepth 20000
abbrev QV.cs (w : QV) : List Value := [.bool w.s, .slice w.A w.n w.c, .bool w.s2, .slice w.A2 w.n2 w.c2]
def qcs (ws : List QV) : List Value := ws.flatMap QV.cs
theorem qcs_length (ws : List QV) : (qcs ws).length = ws.length * 4 := by
  induction ws with
  | nil => rfl
  | cons w r ih => simp only [qcs, List.flatMap_cons, List.length_append, List.length_cons] at ih ⊢; simp at ih ⊢; omega
theorem qcs_get : ∀ (ws : List QV) {i : Nat} (hi : i < ws.length) {j : Nat}, j < 4 → (qcs ws)[i * 4 + j]? = (ws[i].cs)[j]?
  | [], i, hi, j, hj => by simp at hi
  | w :: r, 0, hi, j, hj => by
    simp only [qcs, List.flatMap_cons, Nat.zero_mul, Nat.zero_add, List.getElem_cons_zero]
    rw [List.getElem?_append_left (by simpa using hj)]
  | w :: r, i + 1, hi, j, hj => by
    have := qcs_get r (i := i) (by simpa using hi) hj
    simp only [qcs, List.flatMap_cons, List.getElem_cons_succ] at this ⊢
    rw [List.getElem?_append_right (by simp; omega)]
    rw [← this]
    congr 1
    simp; omega
structure RowQ (h : Heap) (A : Option Addr) (ws : List QV) (qs : List Rat) : Prop where
  cells : SlV h A (qcs ws)
  len : ws.length = qs.length
  nums : ∀ i (hi : i < ws.length) (hj : i < qs.length), NQ h ws[i] qs[i]
theorem RowQ.mono {h h' : Heap} (l : h.le h') {A : Option Addr} {ws : List QV} {qs : List Rat} (r : RowQ h A ws qs) : RowQ h' A ws qs := ⟨r.cells.mono l, r.len, fun i hi hj => (r.nums i hi hj).mono l⟩
theorem RowQ.at {h : Heap} {A : Option Addr} {ws : List QV} {qs : List Rat} (r : RowQ h A ws qs) {i : Nat} (hi : i < ws.length) : ∃ a, A = some a ∧ h.cell? (Addr.add (Addr.add a (i * 4)) 0) = some (.bool ws[i].s) ∧ h.cell? (Addr.add (Addr.add a (i * 4)) 1) = some (.slice ws[i].A ws[i].n ws[i].c) ∧ h.cell? (Addr.add (Addr.add a (i * 4)) 2) = some (.bool ws[i].s2) ∧ h.cell? (Addr.add (Addr.add a (i * 4)) 3) = some (.slice ws[i].A2 ws[i].n2 ws[i].c2) := by
  rcases r.cells with h0 | ⟨a, ha, hc⟩
  · have := congrArg List.length h0
    rw [qcs_length] at this; simp at this; omega
  · have key : ∀ j, j < 4 → ∀ v, (ws[i].cs)[j]? = some v → h.cell? (Addr.add (Addr.add a (i * 4)) j) = some v := by
      intro j hj v hv
      rw [add_add']
      exact hc _ _ (by rw [qcs_get ws hi hj]; exact hv)
    exact ⟨a, ha, key 0 (by omega) _ rfl, key 1 (by omega) _ rfl, key 2 (by omega) _ rfl, key 3 (by omega) _ rfl⟩
section
variable {h g : Heap} {K : Value → Heap → Prop} {m : Nat} {q : Rat}
end
end Go.Proofs.YtgnclfejnndicaaGreatDoor
/-
  The reference's quotients and convergents; the law NearestQuotients.
-/
namespace Go.Proofs.YtgnclfejnndicaaGreatDoor
open Go
set_option maxRecDepth 20000
abbrev zq (l : List Int) : List Rat := l.map fun (z : Int) => (z : Rat)
section
variable {h g : Heap} {K : Value → Heap → Prop} {m : Nat} {q : Rat}
end
end Go.Proofs.YtgnclfejnndicaaGreatDoor
/-
  The tape; the law NearestLeast.
-/
namespace Go.Proofs.YtgnclfejnndicaaGreatDoor
open Go
set_option maxRecDepth 20000
def Tp (h g : Heap) (p : Option Addr) (xs : List Int) : Prop :=
  ∃ (b : Nat) (A : Option Addr) (c k : Nat), p = some ⟨b, 0, none⟩ ∧ g b = none ∧ h = g.put b (.cells #[.slice A xs.length c, I (k : Int)] 94) ∧ k ≤ xs.length ∧ xs.length ≤ 400 ∧ SlI .i64 g A xs
theorem Tp.le {h g : Heap} {p : Option Addr} {xs : List Int} (t : Tp h g p xs) : g.le h := by
  obtain ⟨b, A, c, k, _, hb, rfl, _⟩ := t
  exact Heap.le_put _ hb
theorem Tp.after {h g h' : Heap} {p : Option Addr} {xs : List Int} (t : Tp h g p xs) (l : h.le h') : ∃ g', g.le g' ∧ Tp h' g' p xs := by
  obtain ⟨b, A, c, k, hp, hb, rfl, hk, hl, s⟩ := t
  obtain ⟨g', l1, hb', rfl⟩ := Heap.after_put hb l
  exact ⟨g', l1, b, A, c, k, hp, hb', rfl, hk, hl, s.mono l1⟩
theorem Tp.call {P : Program} {f : FuncId} {args : Array Value} {h g : Heap} {p : Option Addr} {xs : List Int} (t : Tp h g p xs) {K : Value → Heap → Prop} (x : FCall P f args g (fun r h0 => g.le h0 ∧ ∀ h', h.le h' → Tp h' h0 p xs → K r h')) : FCall P f args h K := by
  obtain ⟨b, A, c, k, hp, hb, rfl, hk, hl, s⟩ := t
  refine FCall.frame hb x fun r h0 h0b hk2 => ?_
  obtain ⟨l0, hk3⟩ := hk2
  refine hk3 _ ?_ ⟨b, A, c, k, hp, h0b, rfl, hk, hl, s.mono l0⟩
  intro j o hj
  by_cases hjb : j = b
  · subst hjb; rw [Heap.put_same] at hj ⊢; exact hj
  · rw [Heap.put_other _ _ hjb] at hj ⊢; exact l0 j o hj
theorem box_ok {P : Program} {t : TypeId} {v : Value} {K : Value → Heap → Prop} {h : Heap} (x : ∀ b, h b = none → K (.pointer (some ⟨b, 0, none⟩)) (h.put b (.cells v.cells t))) : wpH P (Instr.box t v) K h := by
  unfold Instr.box newVar
  simp only [wpH_bind_eq, wpH_newRow, wpH_pure]
  exact x
section
variable {h g : Heap} {K : Value → Heap → Prop} {A : Option Addr} {xs : List Int}
theorem pnew_spec {ac : Nat} (s : SlI .i64 h A xs) (hc : xs.length ≤ ac) (hK : ∀ p h', Tp h' h p (xs.take 400) → K (.pointer p) h') : FCall Tryz.prog f_PNew #[.slice A xs.length ac] h K := by
  refine PNew_ok _ _ _ ?_
  unfold PNew
  have e : (if (400 : Int) < ((xs.length : Nat) : Int) then (400 : Int) else ((xs.length : Nat) : Int)) = (((xs.take 400).length : Nat) : Int) := by
    rw [List.length_take]; split <;> omega
  have hl : (xs.take 400).length ≤ xs.length := by rw [List.length_take]; omega
  rw [e]
  refine ⟨⟨by omega, by omega⟩, box_ok ?_⟩
  intro b hb
  refine ⟨_, rfl, hK _ _ ⟨b, cutA A ac 0 1, ac - 0, 0, rfl, hb, ?_, by omega, by rw [List.length_take]; omega, ?_⟩⟩
  · rw [Int.toNat_natCast, Nat.sub_zero]; rfl
  · have := s.cut (c := ac) (l := 0) (m := (xs.take 400).length) (by omega) hl hc
    rw [List.drop_zero, Nat.sub_zero, List.length_take] at this
    have e2 : xs.take (min 400 xs.length) = xs.take 400 := by
      rw [← List.take_take, List.take_of_length_le (Nat.le_refl _)]
    rw [e2] at this
    exact this
theorem pnext_spec {p : Option Addr} {n : Nat} (t : Tp h g p xs) (hn : 0 < n ∧ n ≤ 1000000) (hK : ∀ (r : Nat) h', r < n → Tp h' g p xs → K (I (r : Int)) h') : FCall Tryz.prog f_PNext #[.pointer p, I (n : Int)] h K := by
  have t0 := t
  obtain ⟨b, A, c, k, rfl, hb, rfl, hk, hl, s⟩ := t
  refine PNext_ok _ _ ?_
  unfold PNext
  have c0 : (g.put b (.cells #[.slice A xs.length c, I (k : Int)] 94)).cell? (Addr.add ⟨b, 0, none⟩ 0) = some (.slice A xs.length c) := by rw [add_at, Heap.cell_put]; rfl
  have c1 : (g.put b (.cells #[.slice A xs.length c, I (k : Int)] 94)).cell? (Addr.add ⟨b, 0, none⟩ 1) = some (I (k : Int)) := by rw [add_at, Heap.cell_put]; rfl
  refine ⟨_, rfl, _, c1, _, rfl, _, _, _, c0, Br.dec (fun e => ?_) (fun e => ?_)⟩
  · exact hK 0 _ hn.1 t0
  · have hkl : k < xs.length := by omega
    refine ⟨_, rfl, _, _, _, c0, _, rfl, _, c1, ?_⟩
    have s' := s.mono (Heap.le_put (.cells #[.slice A xs.length c, I (k : Int)] 94) hb)
    refine s'.load rfl (by omega) (by omega) ?_
    rw [Int.toNat_natCast]
    refine ⟨_, rfl, _, c1, _, rfl, ?_⟩
    have ew : wi64 ((k : Int) + 1) = ((k + 1 : Nat) : Int) := by rw [wi64_id (by omega) (by omega)]; omega
    rw [ew]
    refine storeI_ok (i := 1) (c := #[.slice A xs.length c, I (k : Int)]) tInts_one (by show (1 : Nat) < 2; decide) ?_
    generalize xs.getD k 0 = v
    have e0 : ¬ ((n : Int) = 0) := by omega
    refine Br.dec (fun e => absurd e e0) (fun _ => Br.dec (fun e => absurd e e0) (fun _ => ?_))
    have hb1 : -(n : Int) < Int.tmod v n ∧ Int.tmod v n < n := by
      have hm := Nat.mod_lt v.natAbs hn.1
      have tt := tmod_sgn v.natAbs n
      by_cases hv : v < 0
      · rw [show -((v.natAbs : Nat) : Int) = v by omega] at tt; have := tt.2.2.1; omega
      · rw [show ((v.natAbs : Nat) : Int) = v by omega] at tt; have := tt.1; omega
    generalize Int.tmod v n = w at *
    rw [wi64_id (by omega) (by omega), Int.tmod_eq_emod_of_nonneg (by omega)]
    have h2 := Int.emod_nonneg (w + n) e0
    have h3 := Int.emod_lt_of_pos (w + n) (show (0 : Int) < n by omega)
    obtain ⟨r, hr⟩ := Int.eq_ofNat_of_zero_le h2
    rw [hr] at h3 ⊢
    exact hK r _ (by omega) ⟨b, A, c, k + 1, rfl, hb, rfl, by omega, hl, s⟩
theorem frac_sz {x y : Int} (hx : x.natAbs ≤ 2000) (hy : 0 < y ∧ y ≤ 300) : Sz 11 (Rat.divInt x y) := Sz.divInt (by omega) (by unfold ZB; omega) (by unfold ZB; omega)
theorem simp1_sz {m : Nat} {p q : Rat} (hm : 1 ≤ m) (hle : p ≤ q) (sx : Sz m p) (sy : Sz m q) : Sz m (simp1 p q) := by
  unfold simp1
  by_cases hneg : q < 0
  · rw [if_pos hneg]; exact (simpP_sz (by grind) (by grind) sy.neg).neg
  · rw [if_neg hneg]
    by_cases hlo : p ≤ 0
    · rw [if_pos hlo]; exact Sz.zero hm
    · rw [if_neg hlo]; exact simpP_sz (by grind) hle sx
theorem least_plain {a b v : Rat} {d : Nat} (hd : 0 < d) (hmin : ∀ y, a ≤ y → y ≤ b → v.den ≤ y.den) (hlt : d < v.den) : ¬ Rat.divInt (-(-(a * (d : Rat))).floor) d ≤ b := by
  intro hle
  have hdr : (0 : Rat) < (d : Rat) := Rat.natCast_pos.2 hd
  have hge : a ≤ Rat.divInt (-(-(a * (d : Rat))).floor) d := by
    rw [Rat.divInt_eq_div, ← Rat.not_lt, Rat.intCast_natCast, Rat.div_lt_iff hdr, Rat.not_lt]
    have := Rat.floor_le (-(a * (d : Rat)))
    rw [Rat.intCast_neg]; grind
  have h1 := hmin _ hge hle
  have h2 := (divInt_le (a := -(-(a * (d : Rat))).floor) (b := d) (by omega)).2
  rw [Int.natAbs_natCast] at h2
  omega
theorem law_least {ac : Nat} (gl : Gl h) (s : SlI .i64 h A xs) (hc : xs.length ≤ ac) : FCall Tryz.prog f_LNearestLeast #[.slice A xs.length ac] h (LawK h) := by
  refine LNearestLeast_ok _ _ _ ?_
  unfold LNearestLeast
  refine pnew_spec s hc ?_
  intro p h0 t0
  refine ⟨_, rfl, pnext_spec (n := 4001) t0 (by omega) ?_⟩
  intro r1 h1 hr1 t1
  refine ⟨_, rfl, ?_⟩
  rw [show wi64 ((r1 : Int) - 2000) = (r1 : Int) - 2000 from wi64_id (by omega) (by omega)]
  refine t1.call (fromInt_spec (by omega) ?_)
  intro s1 A1 n1 c1 g1 lg1 i1
  refine ⟨lg1, fun h2 l2 t2 => ⟨_, _, _, _, rfl, pnext_spec (n := 300) t2 (by omega) ?_⟩⟩
  intro r2 h3 hr2 t3
  refine ⟨_, rfl, ?_⟩
  rw [show wi64 (1 + (r2 : Int)) = 1 + (r2 : Int) from wi64_id (by omega) (by omega)]
  refine t3.call (fromInt_spec (by omega) ?_)
  intro s2 A2 n2 c2 g2 lg2 i2
  refine ⟨lg2, fun h4 l4 t4 => ⟨_, _, _, _, rfl, t4.call (frac_spec (m := 11) (i1.mono lg2) i2 (by omega) (by unfold ZB; omega) (by unfold ZB; omega) (by omega) ?_)⟩⟩
  intro wa g3 lg3 ia
  have sa : Sz 11 (Rat.divInt ((r1 : Int) - 2000) (1 + (r2 : Int))) := frac_sz (by omega) (by omega)
  generalize Rat.divInt ((r1 : Int) - 2000) (1 + (r2 : Int)) = a at *
  refine ⟨lg3, fun h5 l5 t5 => ⟨_, _, _, _, _, _, _, _, rfl, pnext_spec (n := 20) t5 (by omega) ?_⟩⟩
  intro r3 h6 hr3 t6
  refine ⟨_, rfl, t6.call (fromInt_spec (by omega) ?_)⟩
  intro s4 A4 n4 c4 g4 lg4 i4
  refine ⟨lg4, fun h7 l7 t7 => ⟨_, _, _, _, rfl, l7, pnext_spec (n := 300) t7 (by omega) ?_⟩⟩
  intro r4 h8 hr4 t8
  refine ⟨_, rfl, ?_⟩
  rw [show wi64 (1 + (r4 : Int)) = 1 + (r4 : Int) from wi64_id (by omega) (by omega)]
  refine t8.call (fromInt_spec (by omega) ?_)
  intro s5 A5 n5 c5 g5 lg5 i5
  refine ⟨lg5, fun h9 l9 t9 => ⟨_, _, _, _, rfl, l9, ?_⟩⟩
  have lg : h.le h9 := Heap.le_trans lg1 (Heap.le_trans lg2 (Heap.le_trans lg3 (Heap.le_trans lg4 (Heap.le_trans lg5 t9.le))))
  have ia9 := ia.mono (Heap.le_trans lg4 (Heap.le_trans lg5 t9.le))
  refine frac_spec (m := 11) (i4.mono (Heap.le_trans lg5 t9.le)) (i5.mono t9.le) (by omega) (by unfold ZB; omega) (by unfold ZB; omega) (by omega) ?_
  intro wc h10 l10 ic
  have sc : Sz 11 (Rat.divInt (r3 : Int) (1 + (r4 : Int))) := frac_sz (by omega) (by omega)
  have hc0 : 0 ≤ Rat.divInt (r3 : Int) (1 + (r4 : Int)) := Rat.divInt_nonneg (by omega) (by omega)
  generalize Rat.divInt (r3 : Int) (1 + (r4 : Int)) = cc at *
  refine ⟨_, _, _, _, _, _, _, _, rfl, l10, radd_spec (ia9.mono l10) ic sa sc (by omega) ?_⟩
  intro wb h11 l11 ib
  have sb : Sz 23 (a + cc) := sa.add sc
  have hab : a ≤ a + cc := by grind
  generalize a + cc = b at *
  have sa' : Sz 23 a := sa.mono (by omega)
  have ia11 := ia9.mono (Heap.le_trans l10 l11)
  have l911 : h.le h11 := Heap.le_trans lg (Heap.le_trans l10 l11)
  refine ⟨_, _, _, _, _, _, _, _, rfl, l11, text_spec ia11 sa' (by omega) ⟨_, rfl, Heap.le_refl _, text_spec ib sb (by omega) ⟨_, rfl, Heap.le_refl _, ?_⟩⟩⟩
  have ta := Tx.of sa' (by omega)
  have tb := Tx.of sb (by omega)
  refine esimplest1_spec (m := 23) (gl.mono l911) ta.len tb.len (by rw [rv_txt]; exact sa') (by rw [rv_txt]; exact sb) (by omega) (by omega) ?_
  intro r e _ _ k3
  rw [rv_txt, rv_txt] at k3
  obtain ⟨rfl, rfl⟩ := k3 ⟨_, rfl⟩ ⟨_, rfl⟩ hab
  have sv := simp1_sz (by omega) hab sa' sb
  obtain ⟨⟨v1, v2⟩, v3⟩ := simp1_min hab
  generalize simp1 a b = v at *
  refine ⟨_, _, rfl, Heap.le_refl _, read_spec (by have := txtQ_len sv; omega) ?_ (fun hn => absurd ⟨_, rfl⟩ hn)⟩
  intro q' hq' wv h12 l12 iv
  have := txtQ_inj hq'
  subst this
  have l112 := Heap.le_trans l911 l12
  refine ⟨_, _, _, _, _, _, _, _, _, rfl, fun L hp => L = [.bool false] ∧ hp = h12, Br.bne (fun e => absurd rfl e) (fun _ => Br.of (fun e => by cases e) (fun _ => ?_)), ?_⟩
  · refine rcmp_spec iv (ia11.mono l12) sv sa' (by omega) ⟨_, rfl, Br.dec (fun e => ?_) (fun _ => ?_)⟩
    · exfalso; have := sgnQ_lt.1 e; grind
    · refine rcmp_spec iv (ib.mono l12) sv sb (by omega) ⟨_, rfl, ?_, rfl⟩
      rw [decide_eq_false]
      intro e; have := sgnQ_gt.1 e; grind
  rintro t63 hp18 ⟨hL, rfl⟩
  obtain rfl : t63 = false := by simpa using hL
  refine Br.of (fun e => by cases e) (fun _ => ?_)
  refine ⟨fun L hp => hp18.le hp ∧ ∃ d : Nat, L = [I d] ∧ 0 < d, fun L _ => 400 - (iAt L 0).toNat, ⟨Heap.le_refl _, 1, rfl, by decide⟩, ?_⟩
  rintro d1 hp19 ⟨l19, d, hLd, hd⟩
  obtain rfl : d1 = (d : Int) := by simpa using hLd
  have l119 := Heap.le_trans l112 l19
  refine Br.dec (fun hlt => ?_) (fun hge => known_spec (gl.mono l119) ⟨_, rfl, rfl, l119⟩)
  refine fromInt_spec (by omega) ?_
  intro s20 A20 n20 c20 h20 l20 i20
  refine ⟨_, _, _, _, rfl, l20, den_spec (iv.mono (Heap.le_trans l19 l20)) ?_⟩
  intro s21 A21 n21 c21 h21 l21 i21
  have zd : ZB 23 (d : Int) := by unfold ZB; omega
  refine ⟨_, _, _, _, rfl, l21, cmp_spec (i20.mono l21) i21 zd sv.den (by omega) ⟨_, rfl, Heap.le_refl _, ?_⟩⟩
  have l121 := Heap.le_trans l119 (Heap.le_trans l20 l21)
  refine Br.dec (fun e => ?_) (fun e => known_spec (gl.mono l121) ⟨_, rfl, rfl, l121⟩)
  have hdv : d < v.den := by have := Int.sign_neg_iff.1 e; omega
  have lv21 := Heap.le_trans l19 (Heap.le_trans l20 l21)
  refine r_spec (by omega) ?_
  intro w23 h23 l23 i23
  have sd : Sz 11 ((d : Int) : Rat) := Sz.int (by unfold ZB; omega) (by omega)
  refine ⟨_, _, _, _, _, _, _, _, rfl, l23, rmul_spec (ia11.mono (Heap.le_trans l12 (Heap.le_trans lv21 l23))) i23 sa sd (by omega) ?_⟩
  intro w24 h24 l24 i24
  have sm := sa.mul sd
  refine ⟨_, _, _, _, _, _, _, _, rfl, l24, rneg_spec i24 ?_⟩
  intro w25 i25
  refine ⟨_, _, _, _, _, _, _, _, rfl, Heap.le_refl _, floor_spec i25 sm.neg (by omega) (by omega) ?_⟩
  intro s26 A26 n26 c26 h26 l26 i26
  have zf : ZB 22 (-(a * ((d : Int) : Rat))).floor := floor_zb sm.neg
  refine ⟨_, _, _, _, rfl, l26, neg_spec i26 ?_⟩
  intro s27 i27
  refine ⟨_, _, _, _, rfl, Heap.le_refl _, fromInt_spec (by omega) ?_⟩
  intro s28 A28 n28 c28 h28 l28 i28
  have zd22 : ZB 22 (d : Int) := by unfold ZB; omega
  refine ⟨_, _, _, _, rfl, l28, frac_spec (m := 22) (i27.mono l28) i28 (by omega) zf.neg zd22 (by omega) ?_⟩
  intro w29 h29 l29 i29
  have s29 : Sz 23 (Rat.divInt (-(-(a * ((d : Int) : Rat))).floor) (d : Int)) := (Sz.divInt (by omega) zf.neg zd22).mono (by omega)
  have l2129 := Heap.le_trans l23 (Heap.le_trans l24 (Heap.le_trans l26 (Heap.le_trans l28 l29)))
  refine ⟨_, _, _, _, _, _, _, _, rfl, l29, rcmp_spec i29 (ib.mono (Heap.le_trans l12 (Heap.le_trans lv21 l2129))) s29 sb (by omega) ⟨_, rfl, Heap.le_refl _, ?_⟩⟩
  refine Br.dec (fun e2 => ?_) (fun e2 => ?_)
  · exfalso
    have hp := least_plain hd v3 hdv
    rw [Rat.intCast_natCast] at e2
    have := sgnQ_le.1 e2
    exact hp (by grind)
  · rw [wi64_id (by omega) (by omega)]
    exact ⟨⟨Heap.le_trans lv21 l2129, d + 1, rfl, by omega⟩, by simp only [iAt, List.getElem?_cons_zero]; omega⟩
end
end Go.Proofs.YtgnclfejnndicaaGreatDoor
