/-
  Texts of this proof, merged by a program of ours: NearD, NearE, CardA.
-/
import Derived.Test.YtgnclfejnndicaaGreatDoorG21
import Derived.Test.YtgnclfejnndicaaGreatDoorG22
import Derived.Test.YtgnclfejnndicaaGreatDoorRows
import Derived.Below
import Derived.LaidLaws
import Derived.Lib.LaidTab
/-
  simplest: the program's and the reference's.
-/
namespace Go.Proofs.YtgnclfejnndicaaGreatDoor
open Go
set_option maxRecDepth 20000
theorem sgnQ_lt {q : Rat} : q.num.sign < 0 ↔ q < 0 := by rw [Int.sign_neg_iff, Rat.lt_iff]; simp
theorem sgnQ_gt {q : Rat} : 0 < q.num.sign ↔ 0 < q := by rw [Int.sign_pos_iff, Rat.lt_iff]; simp
theorem sgnQ_le {q : Rat} : q.num.sign ≤ 0 ↔ q ≤ 0 := by rw [← Rat.not_lt, ← sgnQ_gt]; omega
theorem txtI_eq (z : Int) : txtI z = txtQ (z : Rat) := by rw [txtQ_int (by simp), Rat.num_intCast]
theorem step_sz {m : Nat} {q : Rat} {f : Int} (h : Sz m q) (h1 : (f : Rat) < q) (h2 : q < f + 1) : Sz m (q - f) ∧ Sz m (q - f)⁻¹ := by
  obtain ⟨a, b, c, _⟩ := cf_step h1 h2
  obtain ⟨d, e⟩ := sub_int q f
  have hd := h.den
  refine ⟨⟨?_, by rw [e]; exact hd⟩, ⟨by rw [a]; exact hd, ?_⟩⟩
  · rw [d, ← b]; exact hd.le (by rw [Int.natAbs_natCast, Int.natAbs_natCast]; omega)
  · exact hd.le (by rw [Int.natAbs_natCast, Int.natAbs_natCast]; omega)
theorem floor_sz {m : Nat} {q : Rat} (h : Sz m q) (hm : 1 ≤ m) : Sz m (q.floor : Rat) := Sz.int (floor_zb h) hm
theorem ceil_zb {m : Nat} {q : Rat} (h : Sz m q) : ZB m q.ceil := by
  rw [Rat.ceil_eq_neg_floor_neg]; exact (floor_zb h.neg).neg
theorem ceil_sz {m : Nat} {q : Rat} (h : Sz m q) (hm : 1 ≤ m) : Sz m (q.ceil : Rat) := Sz.int (ceil_zb h) hm
section
variable {h : Heap} {K : Value → Heap → Prop} {m : Nat} {a b w : QV} {p q : Rat}
theorem einverse_spec (gl : Gl h) (hq : Sz m q) (hm1 : 1 ≤ m) (hm : m ≤ 283) (h0 : q ≠ 0) (hK : K (.string (bs (txtQ q⁻¹))) h) : FCall Tryz.prog f_EInverse #[.string (bs (txtQ q))] h K := by
  refine EInverse_ok _ ?_
  unfold EInverse
  have e1 : txtQ 1 = [49] := by simp [txtQ, txtI, digs, dd_pos, dd_zero, dch]
  show FCall _ _ #[.string (bs [49]), _] _ _
  rw [← e1]
  refine tdiv_spec gl (Tx.of (Sz.int (z := 1) (ZB.one hm1) hm1) (by omega)) (Tx.of hq (by omega)) hm1 (by omega) ?_ ?_
  · intro _
    rw [rv_txt, rv_txt, Rat.div_def]
    refine ⟨_, _, rfl, ?_⟩
    have e2 : ((1 : Int) : Rat) * q⁻¹ = q⁻¹ := by rw [Rat.intCast_one, Rat.one_mul]
    first
    | (rw [e2]; exact hK)
    | (rw [Rat.one_mul]; exact hK)
  · intro e; rw [rv_txt] at e; exact absurd e h0
theorem esimplest_pos : ∀ n (lo hi : Rat) (h : Heap) (K : Value → Heap → Prop), lo.den + hi.den ≤ n → Gl h → 0 < lo → lo ≤ hi → Sz m lo → Sz m hi → 1 ≤ m → m ≤ 280 → K (.string (bs (txtQ (simpP lo hi)))) h → FCall Tryz.prog f_ESimplest #[.string (bs (txtQ lo)), .string (bs (txtQ hi))] h K := by
  intro n
  induction n with
  | zero => intro lo hi h K hn; have := lo.den_nz; omega
  | succ n ih =>
    intro lo hi h K hn gl h0 hle sl sh hm1 hm hK
    have hhi : 0 < hi := Std.lt_of_lt_of_le h0 hle
    have tl := Tx.of sl (by omega)
    have th := Tx.of sh (by omega)
    refine ESimplest_ok _ _ ?_
    unfold ESimplest
    refine tsign_spec gl th.len ⟨_, rfl, Br.dec (fun e => ?_) (fun _ => ?_)⟩
    · rw [rv_txt, sgnQ_lt] at e; exfalso; grind
    refine tsign_spec gl tl.len ⟨_, rfl, Br.dec (fun e => ?_) (fun _ => ?_)⟩
    · rw [rv_txt, sgnQ_le] at e; exfalso; grind
    refine tceil_spec gl tl (by omega) ⟨_, rfl, ?_⟩
    rw [rv_txt, txtI_eq]
    refine tcompare_spec gl (Tx.of (ceil_sz sl hm1) (by omega)) th (by omega) ⟨_, rfl, Br.dec (fun e => ?_) (fun e => ?_)⟩
    · rw [rv_txt, rv_txt, cmpQ_le] at e
      rw [simpP_int e] at hK
      exact hK
    · rw [rv_txt, rv_txt, cmpQ_le] at e
      obtain ⟨f1, f2, f3⟩ := no_int (fun x => x.elim e (fun y => y hle))
      rw [simpP_step e hle] at hK
      refine tfloor_spec gl tl (by omega) ⟨_, rfl, ?_⟩
      rw [rv_txt, txtI_eq]
      have sf := floor_sz sl hm1
      have tf := Tx.of sf (by omega)
      obtain ⟨sl1, sl2⟩ := step_sz sl f1 (Std.lt_of_le_of_lt f2 f3)
      obtain ⟨sh1, sh2⟩ := step_sz sh (Std.lt_of_lt_of_le f1 f2) f3
      obtain ⟨_, _, d1, x1⟩ := cf_step f1 (Std.lt_of_le_of_lt f2 f3)
      obtain ⟨_, _, d2, x2⟩ := cf_step (Std.lt_of_lt_of_le f1 f2) f3
      refine tsub_spec gl th tf (by omega) ⟨_, rfl, ?_⟩
      rw [rv_txt, rv_txt]
      refine einverse_spec gl sh1 hm1 (by omega) (by grind) ⟨_, rfl, ?_⟩
      refine tsub_spec gl tl tf (by omega) ⟨_, rfl, ?_⟩
      rw [rv_txt, rv_txt]
      refine einverse_spec gl sl1 hm1 (by omega) (by grind) ⟨_, rfl, ?_⟩
      have hord : (hi - lo.floor)⁻¹ ≤ (lo - lo.floor)⁻¹ := inv_le_inv (by grind) (by grind)
      have hp0 : 0 < (hi - lo.floor)⁻¹ := by grind
      refine ih _ _ _ _ (by omega) gl hp0 hord sh2 sl2 hm1 hm ⟨_, rfl, ?_⟩
      have sx := simpP_sz hp0 hord sh2
      have hx := (simpP_in hp0 hord).1
      generalize simpP (hi - lo.floor)⁻¹ (lo - lo.floor)⁻¹ = x at *
      refine einverse_spec gl sx hm1 (by omega) (by grind) ⟨_, rfl, ?_⟩
      refine tadd_spec gl tf (Tx.of (sx.inv hm1) (by omega)) (by omega) ⟨_, rfl, ?_⟩
      rw [rv_txt, rv_txt]; exact hK
theorem esimplest_spec {lo hi : Rat} (gl : Gl h) (hle : lo ≤ hi) (sl : Sz m lo) (sh : Sz m hi) (hm1 : 1 ≤ m) (hm : m ≤ 280) (hK : K (.string (bs (txtQ (simp1 lo hi)))) h) : FCall Tryz.prog f_ESimplest #[.string (bs (txtQ lo)), .string (bs (txtQ hi))] h K := by
  unfold simp1 at hK
  have tl := Tx.of sl (by omega)
  have th := Tx.of sh (by omega)
  by_cases hneg : hi < 0
  · rw [if_pos hneg] at hK
    refine ESimplest_ok _ _ ?_
    unfold ESimplest
    refine tsign_spec gl th.len ⟨_, rfl, Br.dec (fun _ => ?_) (fun e => ?_)⟩
    · refine tneg_spec gl th.len ⟨_, rfl, tneg_spec gl tl.len ⟨_, rfl, ?_⟩⟩
      rw [rv_txt, rv_txt]
      have hp0 : 0 < -hi := by grind
      have hord : -hi ≤ -lo := by grind
      refine esimplest_pos _ _ _ _ _ (Nat.le_refl _) gl hp0 hord sh.neg sl.neg hm1 hm ⟨_, rfl, ?_⟩
      have sx := simpP_sz hp0 hord sh.neg
      refine tneg_spec gl (Tx.of sx (by omega)).len ⟨_, rfl, ?_⟩
      rw [rv_txt]; exact hK
    · rw [rv_txt, sgnQ_lt] at e; exact absurd hneg e
  · rw [if_neg hneg] at hK
    by_cases hlo : lo ≤ 0
    · rw [if_pos hlo, txtQ0] at hK
      refine ESimplest_ok _ _ ?_
      unfold ESimplest
      refine tsign_spec gl th.len ⟨_, rfl, Br.dec (fun e => ?_) (fun _ => ?_)⟩
      · rw [rv_txt, sgnQ_lt] at e; exact absurd e hneg
      refine tsign_spec gl tl.len ⟨_, rfl, Br.dec (fun _ => hK) (fun e => ?_)⟩
      rw [rv_txt, sgnQ_le] at e; exact absurd hlo e
    · rw [if_neg hlo] at hK
      exact esimplest_pos _ _ _ _ _ (Nat.le_refl _) gl (Rat.not_le.1 hlo) hle sl sh hm1 hm hK
theorem esimplest1_spec {x y : List UInt8} (gl : Gl h) (hx : x.length ≤ 570) (hy : y.length ≤ 570) (sx : Sz m (rv x)) (sy : Sz m (rv y)) (hm1 : 1 ≤ m) (hm : m ≤ 280) (hK : ∀ (r : List UInt8) (e : Int), (¬ (IsNum x ∧ IsNum y) → r = [] ∧ e = 1) → (IsNum x → IsNum y → rv y < rv x → r = [] ∧ e = 3) → (IsNum x → IsNum y → rv x ≤ rv y → r = txtQ (simp1 (rv x) (rv y)) ∧ e = 0) → K (.tuple #[.string (bs r), I e]) h) : FCall Tryz.prog f_ESimplest1 #[.string (bs x), .string (bs y)] h K := by
  refine ESimplest1_ok _ _ ?_
  unfold ESimplest1
  refine ⟨fun L hp => hp = h ∧ ∃ t : Bool, L = [.bool t] ∧ (t = true ↔ ¬ (IsNum x ∧ IsNum y)), valid_spec gl (by omega) (fun e => ?_) (fun e => ?_), ?_⟩
  · refine ⟨_, rfl, Br.not (valid_spec gl (by omega) (fun e2 => ?_) (fun e2 => ?_))⟩
    · exact ⟨_, rfl, rfl, false, rfl, by simp [e, e2]⟩
    · exact ⟨_, rfl, rfl, true, rfl, by simp [e2]⟩
  · exact ⟨_, rfl, Br.not ⟨rfl, true, rfl, by simp [e]⟩⟩
  rintro t13 hp2 ⟨rfl, t, hL, ht⟩
  obtain rfl : t13 = t := by simpa using hL
  refine Br.of (fun e => ?_) (fun e => ?_)
  · have := ht.1 e
    exact hK [] 1 (fun _ => ⟨rfl, rfl⟩) (fun a b => absurd ⟨a, b⟩ this) (fun a b => absurd ⟨a, b⟩ this)
  · have hxy : IsNum x ∧ IsNum y := by
      apply Classical.byContradiction
      intro hn
      rw [ht.2 hn] at e; cases e
    refine tcompare_spec gl ⟨by omega, sy⟩ ⟨by omega, sx⟩ (by omega) ⟨_, rfl, Br.dec (fun e1 => ?_) (fun e1 => ?_)⟩
    · rw [cmpQ_lt] at e1
      exact hK [] 3 (fun a => absurd hxy a) (fun _ _ _ => ⟨rfl, rfl⟩) (fun _ _ a => absurd e1 (Rat.not_lt.2 a))
    · rw [cmpQ_lt, Rat.not_lt] at e1
      have ex := txt_rv hxy.1
      have ey := txt_rv hxy.2
      have key := esimplest_spec (K := fun r3 hp4 => ∃ (t20 : ByteArray), r3 = .string t20 ∧ K (.tuple #[.string t20, I (0 : Int)]) hp4) gl e1 sx sy hm1 hm ⟨_, rfl, hK _ 0 (fun a => absurd hxy a) (fun _ _ a => absurd a (Rat.not_lt.2 e1)) (fun _ _ _ => ⟨rfl, rfl⟩)⟩
      rw [ex, ey] at key
      exact key
theorem fone_spec (hK : ∀ w h', h.le h' → NQ h' w 1 → K w.v h') : FCall Tryz.prog f_FOne #[] h K := by
  refine FOne_ok ?_
  unfold FOne
  refine r_spec (z := 1) (by omega) ?_
  intro w h1 l1 i1
  exact ⟨_, _, _, _, _, _, _, _, rfl, hK w h1 l1 i1⟩
end
end Go.Proofs.YtgnclfejnndicaaGreatDoor
/-
  The law NearestSimplest.
-/
namespace Go.Proofs.YtgnclfejnndicaaGreatDoor
open Go
set_option maxRecDepth 20000
def LawK (h : Heap) (r : Value) (h' : Heap) : Prop := r = .bool true ∧ h.le h'
theorem rv_sz {x : List UInt8} {k : Nat} (hl : x.length ≤ k) (hk : 1 ≤ k) : Sz (4 * k) (rv x) := by
  by_cases hn : IsNum x
  · obtain ⟨neg, a, b, f⟩ := hn.form
    obtain ⟨h1, h2⟩ := f.rv_num hn
    have hlen := f.lens
    have habs : (fNum neg a).natAbs = dval a := by unfold fNum; split <;> simp
    refine ⟨?_, ?_⟩
    · rw [h1]; exact (dval_zb f.da (k := k) (by omega)).le (by rw [habs, Int.natAbs_natCast]; exact Nat.le_refl _)
    · rw [h2]
      unfold fDen
      split
      · exact ZB.one (by omega)
      · exact dval_zb f.db (by omega)
  · rw [rv_not hn]; exact Sz.zero (by omega)
theorem known_simp : simp1 (mkRat 3 10) (mkRat 2 5) = mkRat 1 3 := by
  unfold simp1
  rw [if_neg (by decide +kernel), if_neg (by decide +kernel), simpP_step (by decide +kernel) (by decide +kernel)]
  have e1 : (mkRat 3 10).floor = 0 := by decide +kernel
  have e2 : (mkRat 2 5 - ((0 : Int) : Rat))⁻¹ = mkRat 5 2 := by decide +kernel
  have e3 : (mkRat 3 10 - ((0 : Int) : Rat))⁻¹ = mkRat 10 3 := by decide +kernel
  rw [e1, e2, e3, simpP_int (by decide +kernel)]
  decide +kernel
theorem txt310 : txtQ (mkRat 3 10) = [51, 47, 49, 48] := by
  have h1 : (mkRat 3 10).num = 3 := by decide +kernel
  have h2 : (mkRat 3 10).den = 10 := by decide +kernel
  simp [txtQ, txtI, h1, h2, digs, dd_pos, dd_zero, dch]
theorem txt25 : txtQ (mkRat 2 5) = [50, 47, 53] := by
  have h1 : (mkRat 2 5).num = 2 := by decide +kernel
  have h2 : (mkRat 2 5).den = 5 := by decide +kernel
  simp [txtQ, txtI, h1, h2, digs, dd_pos, dd_zero, dch]
theorem txt13 : txtQ (mkRat 1 3) = [49, 47, 51] := by
  have h1 : (mkRat 1 3).num = 1 := by decide +kernel
  have h2 : (mkRat 1 3).den = 3 := by decide +kernel
  simp [txtQ, txtI, h1, h2, digs, dd_pos, dd_zero, dch]
section
variable {h : Heap} {K : Value → Heap → Prop} {x y : List UInt8}
theorem known_spec (gl : Gl h) (hK : K (.bool true) h) : FCall Tryz.prog f_LKnown #[] h K := by
  refine LKnown_ok ?_
  unfold LKnown
  show FCall _ _ #[.string (bs [51, 47, 49, 48]), .string (bs [50, 47, 53])] _ _
  rw [← txt310, ← txt25]
  have s1 : Sz 8 (rv (txtQ (mkRat 3 10))) := by rw [rv_txt]; exact ⟨by unfold ZB; decide +kernel, by unfold ZB; decide +kernel⟩
  have s2 : Sz 8 (rv (txtQ (mkRat 2 5))) := by rw [rv_txt]; exact ⟨by unfold ZB; decide +kernel, by unfold ZB; decide +kernel⟩
  refine esimplest1_spec gl (by rw [txt310]; decide) (by rw [txt25]; decide) s1 s2 (by decide) (by decide) ?_
  intro r e _ _ k3
  have hle : rv (txtQ (mkRat 3 10)) ≤ rv (txtQ (mkRat 2 5)) := by rw [rv_txt, rv_txt]; decide +kernel
  obtain ⟨rfl, rfl⟩ := k3 ⟨_, rfl⟩ ⟨_, rfl⟩ hle
  rw [rv_txt, rv_txt, known_simp, txt13]
  refine ⟨_, _, rfl, Br.beq (fun _ => ?_) (fun e => absurd rfl e)⟩
  have : ((bs [49, 47, 51]).toList == ({ data := #[49, 47, 51] } : ByteArray).toList) = true := by rw [show ({ data := #[49, 47, 51] } : ByteArray) = bs [49, 47, 51] from rfl, bs_beq]; simp
  rw [this]; exact hK
end
end Go.Proofs.YtgnclfejnndicaaGreatDoor
/-
  From the world of a statement to the visible heap of the walks; the tables that the statement lists.
-/
namespace Go.Proofs.YtgnclfejnndicaaGreatDoor
open Go Go.RowKit
set_option maxRecDepth 20000
def memOf (W : World) : Heap := fun b => W.heap[b]?
theorem frame_of {P : Program} {f : FuncId} {args : Array Value} {W : World} (x : FCall P f args (memOf W) (LawK (memOf W))) : Calls P f args W fun e w' => e = .returned (.bool true) ∧ Below W.heap.size W w' := by
  refine (x W (fun b o e => e)).mono ?_
  rintro e W' ⟨r, h', he, ⟨hr, hle⟩, fr⟩
  subst hr
  refine ⟨he, fr.os, fr.tape, fr.output, fr.size, fun k hk => ?_⟩
  have e0 : memOf W k = some W.heap[k] := Array.getElem?_eq_getElem hk
  have := fr.sim k _ (hle k _ e0)
  rw [this]; exact e0.symm
theorem memOf_cell {W : World} {a : Addr} {v : Value} (e : W.cell? a = some v) : (memOf W).cell? a = some v := by
  unfold World.cell? at e
  unfold Heap.cell? memOf
  exact e
theorem wf_bnd {n : Int} (h : (Lit.int .i64 n).wf = true) : -9223372036854775808 ≤ n ∧ n ≤ 9223372036854775807 := by
  simp only [Lit.wf, Bool.and_eq_true, decide_eq_true_eq] at h
  exact h
theorem laidTail {P : Program} {W : World} {x : String × DataW Unit} {rest : List (String × DataW Unit)} (h : laidMet P (x :: rest) W) : laidMet P rest W := by
  obtain ⟨n, d⟩ := x
  obtain ⟨ps, ⟨g, t, cs, fuel, p, q, h1, h2, h3, h4, h5, rfl⟩, h6, h7⟩ := h
  exact ⟨q, h5, (List.nodup_append.1 h6).2.1, fun b off hb => h7 b off (List.mem_append_right _ hb)⟩
def tab32 : List Int := [0, 1, 28, 2, 29, 14, 24, 3, 30, 22, 20, 15, 25, 17, 4, 8, 31, 27, 13, 23, 21, 19, 16, 7, 26, 12, 18, 6, 11, 5, 10, 9]
def tab64 : List Int := [0, 1, 56, 2, 57, 49, 28, 3, 61, 58, 42, 50, 38, 29, 17, 4, 62, 47, 59, 36, 45, 43, 51, 22, 53, 39, 33, 30, 24, 18, 12, 5, 63, 55, 48, 27, 60, 41, 37, 16, 46, 35, 44, 21, 52, 32, 23, 11, 54, 26, 40, 15, 34, 20, 31, 10, 25, 14, 19, 9, 13, 8, 7, 6]
def tab10 : List Int := [1, 10, 100, 1000, 10000, 100000, 1000000, 10000000, 100000000, 1000000000, 10000000000, 100000000000, 1000000000000, 10000000000000, 100000000000000, 1000000000000000, 10000000000000000, 100000000000000000, 1000000000000000000, 10000000000000000000]
theorem gTab64 : Tryz.prog.globalNamed "math/bits.deBruijn64tab" = some 1 := by kernel_rfl
theorem gTab10 : Tryz.prog.globalNamed "internal/strconv.uint64pow10" = some 4 := by kernel_rfl
theorem tabs_gl {W : World} (h : laidMet Tryz.prog [("math/bits.deBruijn32tab", Rows.laid_math_bits_deBruijn32tab), ("math/bits.deBruijn64tab", Rows.laid_math_bits_deBruijn64tab), ("internal/strconv.uint64pow10", Rows.laid_internal_strconv_uint64pow10)] W) : Gl (memOf W) := by
  have h2 := laidTail h
  have h3 := laidTail h2
  have t64 : Lib.TabIs Tryz.prog W "math/bits.deBruijn64tab" .u8 tab64 := Lib.tabIs_of_head (rest := [("internal/strconv.uint64pow10", Rows.laid_internal_strconv_uint64pow10)]) gTab64 (by kernel_rfl) Tryz.underlying263 Tryz.underlying5 (by kernel_rfl) (by kernel_rfl) h2
  have t10 : Lib.TabIs Tryz.prog W "internal/strconv.uint64pow10" .u64 tab10 := Lib.tabIs_of_head (rest := []) gTab10 (by kernel_rfl) Tryz.underlying268 Tryz.underlying98 (by kernel_rfl) (by kernel_rfl) h3
  have k64 : ∀ k, k < 64 → tzIdx k < tab64.length ∧ tab64.getD (tzIdx k) 0 = (k : Int) := by decide +kernel
  have k10 : ∀ k, k < 20 → tab10.getD k 0 = ((10 ^ k : Nat) : Int) := by decide +kernel
  refine ⟨fun k hk => ?_, fun k hk => ?_⟩
  · obtain ⟨a, b⟩ := k64 k hk
    have := memOf_cell (t64.cell gTab64 (tzIdx k) a)
    rw [add_at, Nat.mul_one, Nat.zero_add, this, b]
  · have := memOf_cell (t10.cell gTab10 k (by show k < 20; exact hk))
    rw [add_at, Nat.mul_one, Nat.zero_add, this, k10 k hk]
def layTab (zs : List Int) (k : IntKind) : Obj → Obj
  | .cells _ t frozen => .cells (zs.map (Value.int k)).toArray t frozen
  | o => o
def layTabs (a : Array Obj) : Array Obj := ((a.modify 5 (layTab tab32 .u8)).modify 1 (layTab tab64 .u8)).modify 4 (layTab tab10 .u64)
end Go.Proofs.YtgnclfejnndicaaGreatDoor
