/-
  Texts of this proof, merged by a program of ours: NearD, NearE, CardA, NearF, NearG, NearH, NearJ, NearK, NearI.
-/
import Derived.Test.YtgnclfejnndicaaGreatDoorG21
import Derived.Test.YtgnclfejnndicaaGreatDoorG22
import Derived.Test.YtgnclfejnndicaaGreatDoorRows
import Derived.Below
import Derived.LaidLaws
import Derived.Lib.LaidTab
/-
  simplest: the program's and the reference's.
-/
namespace Go.Proofs.YtgnclfejnndicaaGreatDoor
open Go
set_option maxRecDepth 20000
theorem sgnQ_lt {q : Rat} : q.num.sign < 0 ↔ q < 0 := by rw [Int.sign_neg_iff, Rat.lt_iff]; simp
theorem sgnQ_gt {q : Rat} : 0 < q.num.sign ↔ 0 < q := by rw [Int.sign_pos_iff, Rat.lt_iff]; simp
theorem sgnQ_le {q : Rat} : q.num.sign ≤ 0 ↔ q ≤ 0 := by rw [← Rat.not_lt, ← sgnQ_gt]; omega
theorem sgnQ_zero {q : Rat} : q.num.sign = 0 ↔ q = 0 := by rw [Int.sign_eq_zero_iff_zero, Rat.num_eq_zero]
theorem txtI_eq (z : Int) : txtI z = txtQ (z : Rat) := by rw [txtQ_int (by simp), Rat.num_intCast]
theorem step_sz {m : Nat} {q : Rat} {f : Int} (h : Sz m q) (h1 : (f : Rat) < q) (h2 : q < f + 1) : Sz m (q - f) ∧ Sz m (q - f)⁻¹ := by
  obtain ⟨a, b, c, _⟩ := cf_step h1 h2
  obtain ⟨d, e⟩ := sub_int q f
  have hd := h.den
  refine ⟨⟨?_, by rw [e]; exact hd⟩, ⟨by rw [a]; exact hd, ?_⟩⟩
  · rw [d, ← b]; exact hd.le (by rw [Int.natAbs_natCast, Int.natAbs_natCast]; omega)
  · exact hd.le (by rw [Int.natAbs_natCast, Int.natAbs_natCast]; omega)
theorem floor_sz {m : Nat} {q : Rat} (h : Sz m q) (hm : 1 ≤ m) : Sz m (q.floor : Rat) := Sz.int (floor_zb h) hm
theorem ceil_zb {m : Nat} {q : Rat} (h : Sz m q) : ZB m q.ceil := by
  rw [Rat.ceil_eq_neg_floor_neg]; exact (floor_zb h.neg).neg
theorem ceil_sz {m : Nat} {q : Rat} (h : Sz m q) (hm : 1 ≤ m) : Sz m (q.ceil : Rat) := Sz.int (ceil_zb h) hm
section
variable {h : Heap} {K : Value → Heap → Prop} {m : Nat} {a b w : QV} {p q : Rat}
theorem einverse_spec (gl : Gl h) (hq : Sz m q) (hm1 : 1 ≤ m) (hm : m ≤ 283) (h0 : q ≠ 0) (hK : K (.string (bs (txtQ q⁻¹))) h) : FCall Tryz.prog f_EInverse #[.string (bs (txtQ q))] h K := by
  refine EInverse_ok _ ?_
  unfold EInverse
  have e1 : txtQ 1 = [49] := by simp [txtQ, txtI, digs, dd_pos, dd_zero, dch]
  show FCall _ _ #[.string (bs [49]), _] _ _
  rw [← e1]
  refine tdiv_spec gl (Tx.of (Sz.int (z := 1) (ZB.one hm1) hm1) hm) (Tx.of hq hm) hm1 (by omega) ?_ ?_
  · intro _
    rw [rv_txt, rv_txt, Rat.div_def]
    refine ⟨_, _, rfl, ?_⟩
    have e2 : ((1 : Int) : Rat) * q⁻¹ = q⁻¹ := by rw [Rat.intCast_one, Rat.one_mul]
    first
    | (rw [e2]; exact hK)
    | (rw [Rat.one_mul]; exact hK)
  · intro e; rw [rv_txt] at e; exact absurd e h0
theorem esimplest_pos : ∀ n (lo hi : Rat) (h : Heap) (K : Value → Heap → Prop), lo.den + hi.den ≤ n → Gl h → 0 < lo → lo ≤ hi → Sz m lo → Sz m hi → 1 ≤ m → m ≤ 280 → K (.string (bs (txtQ (simpP lo hi)))) h → FCall Tryz.prog f_ESimplest #[.string (bs (txtQ lo)), .string (bs (txtQ hi))] h K := by
  intro n
  induction n with
  | zero => intro lo hi h K hn; have := lo.den_nz; omega
  | succ n ih =>
    intro lo hi h K hn gl h0 hle sl sh hm1 hm hK
    have hhi : 0 < hi := Std.lt_of_lt_of_le h0 hle
    have tl := Tx.of sl (by omega)
    have th := Tx.of sh (by omega)
    refine ESimplest_ok _ _ ?_
    unfold ESimplest
    refine tsign_spec gl th.len ⟨_, rfl, Br.dec (fun e => ?_) (fun _ => ?_)⟩
    · rw [rv_txt, sgnQ_lt] at e; exfalso; grind
    refine tsign_spec gl tl.len ⟨_, rfl, Br.dec (fun e => ?_) (fun _ => ?_)⟩
    · rw [rv_txt, sgnQ_le] at e; exfalso; grind
    refine tceil_spec gl tl (by omega) ⟨_, rfl, ?_⟩
    rw [rv_txt, txtI_eq]
    refine tcompare_spec gl (Tx.of (ceil_sz sl hm1) (by omega)) th (by omega) ⟨_, rfl, Br.dec (fun e => ?_) (fun e => ?_)⟩
    · rw [rv_txt, rv_txt, cmpQ_le] at e
      rw [simpP_int e] at hK
      exact hK
    · rw [rv_txt, rv_txt, cmpQ_le] at e
      obtain ⟨f1, f2, f3⟩ := no_int (fun x => x.elim e (fun y => y hle))
      rw [simpP_step e hle] at hK
      refine tfloor_spec gl tl (by omega) ⟨_, rfl, ?_⟩
      rw [rv_txt, txtI_eq]
      have sf := floor_sz sl hm1
      have tf := Tx.of sf (by omega)
      obtain ⟨sl1, sl2⟩ := step_sz sl f1 (Std.lt_of_le_of_lt f2 f3)
      obtain ⟨sh1, sh2⟩ := step_sz sh (Std.lt_of_lt_of_le f1 f2) f3
      obtain ⟨_, _, d1, x1⟩ := cf_step f1 (Std.lt_of_le_of_lt f2 f3)
      obtain ⟨_, _, d2, x2⟩ := cf_step (Std.lt_of_lt_of_le f1 f2) f3
      refine tsub_spec gl th tf (by omega) ⟨_, rfl, ?_⟩
      rw [rv_txt, rv_txt]
      refine einverse_spec gl sh1 hm1 (by omega) (by grind) ⟨_, rfl, ?_⟩
      refine tsub_spec gl tl tf (by omega) ⟨_, rfl, ?_⟩
      rw [rv_txt, rv_txt]
      refine einverse_spec gl sl1 hm1 (by omega) (by grind) ⟨_, rfl, ?_⟩
      have hord : (hi - lo.floor)⁻¹ ≤ (lo - lo.floor)⁻¹ := inv_le_inv (by grind) (by grind)
      have hp0 : 0 < (hi - lo.floor)⁻¹ := by grind
      refine ih _ _ _ _ (by omega) gl hp0 hord sh2 sl2 hm1 hm ⟨_, rfl, ?_⟩
      have sx := simpP_sz hp0 hord sh2
      have hx := (simpP_in hp0 hord).1
      generalize simpP (hi - lo.floor)⁻¹ (lo - lo.floor)⁻¹ = x at *
      refine einverse_spec gl sx hm1 (by omega) (by grind) ⟨_, rfl, ?_⟩
      refine tadd_spec gl tf (Tx.of (sx.inv hm1) (by omega)) (by omega) ⟨_, rfl, ?_⟩
      rw [rv_txt, rv_txt]; exact hK
theorem esimplest_spec {lo hi : Rat} (gl : Gl h) (hle : lo ≤ hi) (sl : Sz m lo) (sh : Sz m hi) (hm1 : 1 ≤ m) (hm : m ≤ 280) (hK : K (.string (bs (txtQ (simp1 lo hi)))) h) : FCall Tryz.prog f_ESimplest #[.string (bs (txtQ lo)), .string (bs (txtQ hi))] h K := by
  unfold simp1 at hK
  have tl := Tx.of sl (by omega)
  have th := Tx.of sh (by omega)
  by_cases hneg : hi < 0
  · rw [if_pos hneg] at hK
    refine ESimplest_ok _ _ ?_
    unfold ESimplest
    refine tsign_spec gl th.len ⟨_, rfl, Br.dec (fun _ => ?_) (fun e => ?_)⟩
    · refine tneg_spec gl th.len ⟨_, rfl, tneg_spec gl tl.len ⟨_, rfl, ?_⟩⟩
      rw [rv_txt, rv_txt]
      have hp0 : 0 < -hi := by grind
      have hord : -hi ≤ -lo := by grind
      refine esimplest_pos _ _ _ _ _ (Nat.le_refl _) gl hp0 hord sh.neg sl.neg hm1 hm ⟨_, rfl, ?_⟩
      have sx := simpP_sz hp0 hord sh.neg
      refine tneg_spec gl (Tx.of sx (by omega)).len ⟨_, rfl, ?_⟩
      rw [rv_txt]; exact hK
    · rw [rv_txt, sgnQ_lt] at e; exact absurd hneg e
  · rw [if_neg hneg] at hK
    by_cases hlo : lo ≤ 0
    · rw [if_pos hlo, txtQ0] at hK
      refine ESimplest_ok _ _ ?_
      unfold ESimplest
      refine tsign_spec gl th.len ⟨_, rfl, Br.dec (fun e => ?_) (fun _ => ?_)⟩
      · rw [rv_txt, sgnQ_lt] at e; exact absurd e hneg
      refine tsign_spec gl tl.len ⟨_, rfl, Br.dec (fun _ => hK) (fun e => ?_)⟩
      rw [rv_txt, sgnQ_le] at e; exact absurd hlo e
    · rw [if_neg hlo] at hK
      exact esimplest_pos _ _ _ _ _ (Nat.le_refl _) gl (Rat.not_le.1 hlo) hle sl sh hm1 hm hK
theorem esimplest1_spec {x y : List UInt8} (gl : Gl h) (hx : x.length ≤ 570) (hy : y.length ≤ 570) (sx : Sz m (rv x)) (sy : Sz m (rv y)) (hm1 : 1 ≤ m) (hm : m ≤ 280) (hK : ∀ (r : List UInt8) (e : Int), (¬ (IsNum x ∧ IsNum y) → r = [] ∧ e = 1) → (IsNum x → IsNum y → rv y < rv x → r = [] ∧ e = 3) → (IsNum x → IsNum y → rv x ≤ rv y → r = txtQ (simp1 (rv x) (rv y)) ∧ e = 0) → K (.tuple #[.string (bs r), I e]) h) : FCall Tryz.prog f_ESimplest1 #[.string (bs x), .string (bs y)] h K := by
  refine ESimplest1_ok _ _ ?_
  unfold ESimplest1
  refine ⟨fun L hp => hp = h ∧ ∃ t : Bool, L = [.bool t] ∧ (t = true ↔ ¬ (IsNum x ∧ IsNum y)), valid_spec gl hx (fun e => ?_) (fun e => ?_), ?_⟩
  · refine ⟨_, rfl, Br.not (valid_spec gl hy (fun e2 => ?_) (fun e2 => ?_))⟩
    · exact ⟨_, rfl, rfl, false, rfl, by simp [e, e2]⟩
    · exact ⟨_, rfl, rfl, true, rfl, by simp [e2]⟩
  · exact ⟨_, rfl, Br.not ⟨rfl, true, rfl, by simp [e]⟩⟩
  rintro t13 hp2 ⟨rfl, t, hL, ht⟩
  obtain rfl : t13 = t := by simpa using hL
  refine Br.of (fun e => ?_) (fun e => ?_)
  · have := ht.1 e
    exact hK [] 1 (fun _ => ⟨rfl, rfl⟩) (fun a b => absurd ⟨a, b⟩ this) (fun a b => absurd ⟨a, b⟩ this)
  · have hxy : IsNum x ∧ IsNum y := by
      apply Classical.byContradiction
      intro hn
      rw [ht.2 hn] at e; cases e
    refine tcompare_spec gl ⟨hy, sy⟩ ⟨hx, sx⟩ (by omega) ⟨_, rfl, Br.dec (fun e1 => ?_) (fun e1 => ?_)⟩
    · rw [cmpQ_lt] at e1
      exact hK [] 3 (fun a => absurd hxy a) (fun _ _ _ => ⟨rfl, rfl⟩) (fun _ _ a => absurd e1 (Rat.not_lt.2 a))
    · rw [cmpQ_lt, Rat.not_lt] at e1
      have ex := txt_rv hxy.1
      have ey := txt_rv hxy.2
      have key := esimplest_spec (K := fun r3 hp4 => ∃ (t20 : ByteArray), r3 = .string t20 ∧ K (.tuple #[.string t20, I (0 : Int)]) hp4) gl e1 sx sy hm1 hm ⟨_, rfl, hK _ 0 (fun a => absurd hxy a) (fun _ _ a => absurd a (Rat.not_lt.2 e1)) (fun _ _ _ => ⟨rfl, rfl⟩)⟩
      rw [ex, ey] at key
      exact key
theorem fone_spec (hK : ∀ w h', h.le h' → NQ h' w 1 → K w.v h') : FCall Tryz.prog f_FOne #[] h K := by
  refine FOne_ok ?_
  unfold FOne
  refine r_spec (z := 1) (by omega) ?_
  intro w h1 l1 i1
  exact ⟨_, _, _, _, _, _, _, _, rfl, hK w h1 l1 i1⟩
end
end Go.Proofs.YtgnclfejnndicaaGreatDoor
/-
  The law NearestSimplest.
-/
namespace Go.Proofs.YtgnclfejnndicaaGreatDoor
open Go
set_option maxRecDepth 20000
def LawK (h : Heap) (r : Value) (h' : Heap) : Prop := r = .bool true ∧ h.le h'
theorem rv_sz {x : List UInt8} {k : Nat} (hl : x.length ≤ k) (hk : 1 ≤ k) : Sz (4 * k) (rv x) := by
  by_cases hn : IsNum x
  · obtain ⟨neg, a, b, f⟩ := hn.form
    obtain ⟨h1, h2⟩ := f.rv_num hn
    have hlen := f.lens
    have habs : (fNum neg a).natAbs = dval a := by unfold fNum; split <;> simp
    refine ⟨?_, ?_⟩
    · rw [h1]; exact (dval_zb f.da (k := k) (by omega)).le (by rw [habs, Int.natAbs_natCast]; exact Nat.le_refl _)
    · rw [h2]
      unfold fDen
      split
      · exact ZB.one (by omega)
      · exact dval_zb f.db (by omega)
  · rw [rv_not hn]; exact Sz.zero (by omega)
theorem known_simp : simp1 (mkRat 3 10) (mkRat 2 5) = mkRat 1 3 := by
  unfold simp1
  rw [if_neg (by decide +kernel), if_neg (by decide +kernel), simpP_step (by decide +kernel) (by decide +kernel)]
  have e1 : (mkRat 3 10).floor = 0 := by decide +kernel
  have e2 : (mkRat 2 5 - ((0 : Int) : Rat))⁻¹ = mkRat 5 2 := by decide +kernel
  have e3 : (mkRat 3 10 - ((0 : Int) : Rat))⁻¹ = mkRat 10 3 := by decide +kernel
  rw [e1, e2, e3, simpP_int (by decide +kernel)]
  decide +kernel
theorem txt310 : txtQ (mkRat 3 10) = [51, 47, 49, 48] := by
  have h1 : (mkRat 3 10).num = 3 := by decide +kernel
  have h2 : (mkRat 3 10).den = 10 := by decide +kernel
  simp [txtQ, txtI, h1, h2, digs, dd_pos, dd_zero, dch]
theorem txt25 : txtQ (mkRat 2 5) = [50, 47, 53] := by
  have h1 : (mkRat 2 5).num = 2 := by decide +kernel
  have h2 : (mkRat 2 5).den = 5 := by decide +kernel
  simp [txtQ, txtI, h1, h2, digs, dd_pos, dd_zero, dch]
theorem txt13 : txtQ (mkRat 1 3) = [49, 47, 51] := by
  have h1 : (mkRat 1 3).num = 1 := by decide +kernel
  have h2 : (mkRat 1 3).den = 3 := by decide +kernel
  simp [txtQ, txtI, h1, h2, digs, dd_pos, dd_zero, dch]
section
variable {h : Heap} {K : Value → Heap → Prop} {x y : List UInt8}
theorem known_spec (gl : Gl h) (hK : K (.bool true) h) : FCall Tryz.prog f_LKnown #[] h K := by
  refine LKnown_ok ?_
  unfold LKnown
  show FCall _ _ #[.string (bs [51, 47, 49, 48]), .string (bs [50, 47, 53])] _ _
  rw [← txt310, ← txt25]
  have s1 : Sz 8 (rv (txtQ (mkRat 3 10))) := by rw [rv_txt]; exact ⟨by unfold ZB; decide +kernel, by unfold ZB; decide +kernel⟩
  have s2 : Sz 8 (rv (txtQ (mkRat 2 5))) := by rw [rv_txt]; exact ⟨by unfold ZB; decide +kernel, by unfold ZB; decide +kernel⟩
  refine esimplest1_spec gl (by rw [txt310]; decide) (by rw [txt25]; decide) s1 s2 (by decide) (by decide) ?_
  intro r e _ _ k3
  have hle : rv (txtQ (mkRat 3 10)) ≤ rv (txtQ (mkRat 2 5)) := by rw [rv_txt, rv_txt]; decide +kernel
  obtain ⟨rfl, rfl⟩ := k3 ⟨_, rfl⟩ ⟨_, rfl⟩ hle
  rw [rv_txt, rv_txt, known_simp, txt13]
  refine ⟨_, _, rfl, Br.beq (fun _ => ?_) (fun e => absurd rfl e)⟩
  have : ((bs [49, 47, 51]).toList == ({ data := #[49, 47, 51] } : ByteArray).toList) = true := by rw [show ({ data := #[49, 47, 51] } : ByteArray) = bs [49, 47, 51] from rfl, bs_beq]; simp
  rw [this]; exact hK
end
end Go.Proofs.YtgnclfejnndicaaGreatDoor
/-
  From the world of a statement to the visible heap of the walks; the tables that the statement lists.
-/
namespace Go.Proofs.YtgnclfejnndicaaGreatDoor
open Go Go.RowKit
set_option maxRecDepth 20000
def memOf (W : World) : Heap := fun b => W.heap[b]?
theorem frame_of {P : Program} {f : FuncId} {args : Array Value} {W : World} (x : FCall P f args (memOf W) (LawK (memOf W))) : Calls P f args W fun e w' => e = .returned (.bool true) ∧ Below W.heap.size W w' := by
  refine (x W (fun b o e => e)).mono ?_
  rintro e W' ⟨r, h', he, ⟨hr, hle⟩, fr⟩
  subst hr
  refine ⟨he, fr.os, fr.tape, fr.output, fr.size, fun k hk => ?_⟩
  have e0 : memOf W k = some W.heap[k] := Array.getElem?_eq_getElem hk
  have := fr.sim k _ (hle k _ e0)
  rw [this]; exact e0.symm
theorem memOf_cell {W : World} {a : Addr} {v : Value} (e : W.cell? a = some v) : (memOf W).cell? a = some v := by
  unfold World.cell? at e
  unfold Heap.cell? memOf
  exact e
theorem wf_bnd {n : Int} (h : (Lit.int .i64 n).wf = true) : -9223372036854775808 ≤ n ∧ n ≤ 9223372036854775807 := by
  simp only [Lit.wf, Bool.and_eq_true, decide_eq_true_eq] at h
  exact h
theorem row_of {W : World} {a : Option Addr} {len cap : Nat} {zs : List Int} (w : (a = none ∧ len = 0 ∧ cap = 0 ∧ zs = []) ∨
    ∃ x, a = some x ∧ len ≤ cap ∧ cap ≤ maxLen ∧ zs.length = cap ∧ (∀ i, i < zs.length → W.cell? (x.add i) = some (.int .i64 (zs.getD i 0))) ∧ ∀ n ∈ zs, (Lit.int .i64 n).wf = true) : ∃ xs : List Int, len = xs.length ∧ len ≤ cap ∧ SlI .i64 (memOf W) a xs ∧ ∀ n ∈ xs, (Lit.int .i64 n).wf = true := by
  rcases w with ⟨rfl, rfl, rfl, rfl⟩ | ⟨x, rfl, h1, h2, h3, h4, h5⟩
  · exact ⟨[], rfl, Nat.le_refl _, SlI.nil, by simp⟩
  · refine ⟨zs.take len, by simp; omega, h1, .inr ⟨x, rfl, fun i v hv => ?_⟩, fun n hn => h5 n (List.mem_of_mem_take hn)⟩
    rw [List.getElem?_map] at hv
    cases hz : (zs.take len)[i]? with
    | none => rw [hz] at hv; cases hv
    | some n =>
      rw [hz] at hv
      cases hv
      rw [List.getElem?_take] at hz
      split at hz
      · have hi : i < zs.length := by
          by_cases hi : i < zs.length
          · exact hi
          · rw [List.getElem?_eq_none (by omega)] at hz; cases hz
        have := memOf_cell (h4 i hi)
        rw [this]
        simp only [List.getD, hz, Option.getD_some]
      · cases hz
theorem laidTail {P : Program} {W : World} {x : String × DataW Unit} {rest : List (String × DataW Unit)} (h : laidMet P (x :: rest) W) : laidMet P rest W := by
  obtain ⟨n, d⟩ := x
  obtain ⟨ps, ⟨g, t, cs, fuel, p, q, h1, h2, h3, h4, h5, rfl⟩, h6, h7⟩ := h
  exact ⟨q, h5, (List.nodup_append.1 h6).2.1, fun b off hb => h7 b off (List.mem_append_right _ hb)⟩
def tab32 : List Int := [0, 1, 28, 2, 29, 14, 24, 3, 30, 22, 20, 15, 25, 17, 4, 8, 31, 27, 13, 23, 21, 19, 16, 7, 26, 12, 18, 6, 11, 5, 10, 9]
def tab64 : List Int := [0, 1, 56, 2, 57, 49, 28, 3, 61, 58, 42, 50, 38, 29, 17, 4, 62, 47, 59, 36, 45, 43, 51, 22, 53, 39, 33, 30, 24, 18, 12, 5, 63, 55, 48, 27, 60, 41, 37, 16, 46, 35, 44, 21, 52, 32, 23, 11, 54, 26, 40, 15, 34, 20, 31, 10, 25, 14, 19, 9, 13, 8, 7, 6]
def tab10 : List Int := [1, 10, 100, 1000, 10000, 100000, 1000000, 10000000, 100000000, 1000000000, 10000000000, 100000000000, 1000000000000, 10000000000000, 100000000000000, 1000000000000000, 10000000000000000, 100000000000000000, 1000000000000000000, 10000000000000000000]
theorem gTab64 : Tryz.prog.globalNamed "math/bits.deBruijn64tab" = some 1 := by kernel_rfl
theorem gTab10 : Tryz.prog.globalNamed "internal/strconv.uint64pow10" = some 4 := by kernel_rfl
theorem tabs_gl {W : World} (h : laidMet Tryz.prog [("math/bits.deBruijn32tab", Rows.laid_math_bits_deBruijn32tab), ("math/bits.deBruijn64tab", Rows.laid_math_bits_deBruijn64tab), ("internal/strconv.uint64pow10", Rows.laid_internal_strconv_uint64pow10)] W) : Gl (memOf W) := by
  have h2 := laidTail h
  have h3 := laidTail h2
  have t64 : Lib.TabIs Tryz.prog W "math/bits.deBruijn64tab" .u8 tab64 := Lib.tabIs_of_head (rest := [("internal/strconv.uint64pow10", Rows.laid_internal_strconv_uint64pow10)]) gTab64 (by kernel_rfl) Tryz.underlying263 Tryz.underlying5 (by kernel_rfl) (by kernel_rfl) h2
  have t10 : Lib.TabIs Tryz.prog W "internal/strconv.uint64pow10" .u64 tab10 := Lib.tabIs_of_head (rest := []) gTab10 (by kernel_rfl) Tryz.underlying268 Tryz.underlying98 (by kernel_rfl) (by kernel_rfl) h3
  have k64 : ∀ k, k < 64 → tzIdx k < tab64.length ∧ tab64.getD (tzIdx k) 0 = (k : Int) := by decide +kernel
  have k10 : ∀ k, k < 20 → tab10.getD k 0 = ((10 ^ k : Nat) : Int) := by decide +kernel
  refine ⟨fun k hk => ?_, fun k hk => ?_⟩
  · obtain ⟨a, b⟩ := k64 k hk
    have := memOf_cell (t64.cell gTab64 (tzIdx k) a)
    rw [add_at, Nat.mul_one, Nat.zero_add, this, b]
  · have := memOf_cell (t10.cell gTab10 k (by show k < 20; exact hk))
    rw [add_at, Nat.mul_one, Nat.zero_add, this, k10 k hk]
def layTab (zs : List Int) (k : IntKind) : Obj → Obj
  | .cells _ t frozen => .cells (zs.map (Value.int k)).toArray t frozen
  | o => o
def layTabs (a : Array Obj) : Array Obj := ((a.modify 5 (layTab tab32 .u8)).modify 1 (layTab tab64 .u8)).modify 4 (layTab tab10 .u64)
end Go.Proofs.YtgnclfejnndicaaGreatDoor
/-
  Continued fractions by numerators and denominators: bounds; plain, no program here.
-/
namespace Go.Proofs.YtgnclfejnndicaaGreatDoor
open Go
structure CV (s : CS) (q x : Rat) : Prop where
  det : s.p * s.r' - s.p' * s.r = 1 ∨ s.p * s.r' - s.p' * s.r = -1
  dq : (q.den : Int) = s.r * x.num + s.r' * x.den
  nq : q.num = s.p * x.num + s.p' * x.den
  r0 : 0 ≤ s.r ∧ 0 ≤ s.r' ∧ 0 < s.r + s.r'
theorem CV.init (q : Rat) : CV cs0 q q := ⟨.inl (by decide), by simp [cs0], by simp [cs0], by decide⟩
theorem CV.step {s : CS} {q x : Rat} {a : Int} (i : CV s q x) (ha : 0 ≤ a ∨ s.r = 0) (hx : (a : Rat) < x) (h2 : x < a + 1) : CV (s.next a) q (x - a)⁻¹ := by
  obtain ⟨e1, e2, _, _⟩ := cf_step hx h2
  refine ⟨CS.det_next a i.det, ?_, ?_, ?_⟩
  · rw [e1, e2, i.dq]; simp only [CS.next]; grind
  · rw [e1, e2, i.nq]; simp only [CS.next]; grind
  · have h0 := i.r0
    simp only [CS.next]
    rcases ha with ha | ha
    · have := Int.mul_nonneg ha h0.1
      by_cases h : s.r = 0
      · rw [h]; omega
      · omega
    · rw [ha]; omega
theorem CV.last {s : CS} {q x : Rat} (i : CV s q x) (h : (x.floor : Rat) = x) : (s.next x.floor).r = q.den ∧ (s.next x.floor).p = q.num := by
  have hn : x.num = x.floor := by
    have := congrArg Rat.num h
    simpa using this.symm
  have hd : x.den = 1 := by
    have := congrArg Rat.den h
    simpa using this.symm
  rw [i.dq, i.nq, hn, hd]
  simp only [CS.next]
  constructor <;> grind
theorem CV.bound {s : CS} {q x : Rat} (i : CV s q x) (hx : 1 ≤ x) : s.r ≤ q.den ∧ s.p.natAbs ≤ q.num.natAbs + 1 := by
  have hnd : (x.den : Int) ≤ x.num := by
    have := (Rat.le_iff 1 x).1 hx
    simpa using this
  have hd1 : 1 ≤ (x.den : Int) := by have := x.den_nz; omega
  obtain ⟨r1, r2, r3⟩ := i.r0
  have m1 : s.r * 1 ≤ s.r * x.num := Int.mul_le_mul_of_nonneg_left (by omega) r1
  have m2 : 0 ≤ s.r' * x.den := Int.mul_nonneg r2 (by omega)
  have hr : s.r ≤ q.den := by rw [i.dq]; omega
  refine ⟨hr, ?_⟩
  have hxd : (x.den : Int) ≤ q.den := by
    have k1 : s.r * (x.den : Int) ≤ s.r * x.num := Int.mul_le_mul_of_nonneg_left hnd r1
    have k2 : 1 * (x.den : Int) ≤ (s.r + s.r') * x.den := Int.mul_le_mul_of_nonneg_right (by omega) (by omega)
    rw [Int.add_mul] at k2
    rw [i.dq]; omega
  have hq1 : 1 ≤ (q.den : Int) := by have := q.den_nz; omega
  have key : s.p * q.den = q.num * s.r + (s.p * s.r' - s.p' * s.r) * x.den := by
    rw [i.dq, i.nq]; grind
  have ab1 : (s.p * q.den).natAbs ≤ q.num.natAbs * q.den + q.den := by
    rw [key]
    refine Nat.le_trans (Int.natAbs_add_le _ _) ?_
    have t1 : (q.num * s.r).natAbs ≤ q.num.natAbs * q.den := by
      rw [Int.natAbs_mul]; exact Nat.mul_le_mul_left _ (by omega)
    have t2 : ((s.p * s.r' - s.p' * s.r) * x.den).natAbs ≤ q.den := by
      rw [Int.natAbs_mul]
      have : (s.p * s.r' - s.p' * s.r).natAbs = 1 := by rcases i.det with h | h <;> rw [h] <;> rfl
      rw [this, Nat.one_mul, Int.natAbs_natCast]; omega
    omega
  rw [Int.natAbs_mul, Int.natAbs_natCast] at ab1
  have ab2 : s.p.natAbs * q.den ≤ (q.num.natAbs + 1) * q.den := by rw [Nat.add_mul, Nat.one_mul]; exact ab1
  exact Nat.le_of_mul_le_mul_right ab2 (by have := q.den_nz; omega)
theorem cf_half {x : Rat} (h1 : 1 < x) (hf : (x.floor : Rat) < x) : 2 * ((x - x.floor)⁻¹.num.natAbs * (x - x.floor)⁻¹.den) < x.num.natAbs * x.den := by
  obtain ⟨e1, e2, e3, e4⟩ := cf_step hf (ceil_facts x).2.2.2
  have hfl : 1 ≤ x.floor := Rat.le_floor_iff.2 (by simpa using Rat.le_of_lt h1)
  have hm : 1 * (x.den : Int) ≤ x.floor * x.den := Int.mul_le_mul_of_nonneg_right hfl (by omega)
  have hd := x.den_nz
  generalize (x - x.floor)⁻¹ = y at *
  have hn : y.num.natAbs = x.den := by rw [e1]; exact Int.natAbs_natCast _
  have hN : x.num = (x.num.natAbs : Int) := by
    have : 0 < x.num := num_pos' (by grind)
    omega
  have k1 : 2 * y.den < x.num.natAbs := by omega
  rw [hn]
  have := Nat.mul_lt_mul_of_pos_right k1 (show 0 < x.den by omega)
  calc 2 * (x.den * y.den) = 2 * y.den * x.den := by rw [Nat.mul_comm x.den, Nat.mul_assoc]
    _ < x.num.natAbs * x.den := this
theorem cv_state (q : Rat) : ∀ k, k < (cfl q).length → ∃ x, (cfl q).drop k = cfl x ∧ CV (css ((cfl q).take k)) q x ∧ (0 < k → 1 < x ∧ 0 < (css ((cfl q).take k)).r) ∧ (1 < k → 0 < (css ((cfl q).take k)).r') := by
  intro k
  induction k with
  | zero => intro _; exact ⟨q, by simp, by simpa [css] using CV.init q, fun h => by omega, fun h => by omega⟩
  | succ k ih =>
    intro hk
    obtain ⟨x, hd, cv, h1, h2⟩ := ih (by omega)
    have hxe : (cfl q)[k]'(by omega) = x.floor ∧ (cfl q).drop (k + 1) = (cfl x).drop 1 := by
      have e1 : (cfl q).drop k = (cfl q)[k]'(by omega) :: (cfl q).drop (k + 1) := List.drop_eq_getElem_cons (by omega)
      rw [hd] at e1
      have e2 : ∃ t, cfl x = x.floor :: t := by
        by_cases hf : (x.floor : Rat) = x
        · exact ⟨[], cfl_end hf⟩
        · exact ⟨_, cfl_step hf⟩
      obtain ⟨t, ht⟩ := e2
      rw [ht] at e1 ⊢
      simp only [List.cons.injEq] at e1
      exact ⟨e1.1.symm, by simpa using e1.2.symm⟩
    have hnf : (x.floor : Rat) ≠ x := by
      intro hf
      have e3 := hxe.2
      rw [cfl_end hf] at e3
      have := congrArg List.length e3
      rw [List.length_drop] at this; simp at this; omega
    have hlt := Rat.lt_of_le_of_ne (Rat.floor_le x) hnf
    have hlt2 := (ceil_facts x).2.2.2
    have htk : css ((cfl q).take (k + 1)) = (css ((cfl q).take k)).next x.floor := by
      rw [List.take_succ_eq_append_getElem (by omega), css_snoc, hxe.1]
    have hfl : 0 < k → 1 ≤ x.floor := fun h => Rat.le_floor_iff.2 (by simpa using Rat.le_of_lt (h1 h).1)
    have ha : 0 ≤ x.floor ∨ (css ((cfl q).take k)).r = 0 := by
      by_cases h0 : k = 0
      · right; rw [h0]; simp [css, cs0]
      · left; have := hfl (by omega); omega
    have cv2 := cv.step ha hlt hlt2
    refine ⟨(x - x.floor)⁻¹, by rw [hxe.2, cfl_step hnf]; simp, by rw [htk]; exact cv2, fun _ => ⟨(cf_step hlt hlt2).2.2.2, ?_⟩, fun h3 => ?_⟩
    · rw [htk]
      by_cases h0 : k = 0
      · rw [h0]; simp [css, cs0, CS.next]
      · have hr := (h1 (by omega)).2
        have hf := hfl (by omega)
        have hm : (css ((cfl q).take k)).r * 1 ≤ (css ((cfl q).take k)).r * x.floor := Int.mul_le_mul_of_nonneg_left hf (by omega)
        have := cv.r0
        simp only [CS.next]; rw [Int.mul_comm]; omega
    · rw [htk]
      simp only [CS.next]
      exact (h1 (by omega)).2
theorem cfl_head (x : Rat) : ∃ t, cfl x = x.floor :: t := by
  by_cases hf : (x.floor : Rat) = x
  · exact ⟨[], cfl_end hf⟩
  · exact ⟨_, cfl_step hf⟩
theorem cfl_len (q : Rat) : 0 < (cfl q).length := by
  obtain ⟨t, ht⟩ := cfl_head q
  rw [ht]; simp
theorem cv_next (q : Rat) {k : Nat} (hk : k < (cfl q).length) {x : Rat} (hd : (cfl q).drop k = cfl x) : (cfl q)[k] = x.floor ∧ css ((cfl q).take (k + 1)) = (css ((cfl q).take k)).next x.floor ∧ (k + 1 = (cfl q).length ↔ (x.floor : Rat) = x) := by
  have e1 : (cfl q).drop k = (cfl q)[k] :: (cfl q).drop (k + 1) := List.drop_eq_getElem_cons hk
  rw [hd] at e1
  obtain ⟨t, ht⟩ := cfl_head x
  have e0 : (cfl q)[k] = x.floor := by
    rw [ht] at e1; simp only [List.cons.injEq] at e1; exact e1.1.symm
  refine ⟨e0, by rw [List.take_succ_eq_append_getElem hk, css_snoc, e0], ?_⟩
  have hl := congrArg List.length e1
  rw [List.length_cons, List.length_drop] at hl
  constructor
  · intro h
    apply Classical.byContradiction
    intro hf
    rw [cfl_step hf] at hl
    have := cfl_len (x - x.floor)⁻¹
    simp at hl; omega
  · intro hf
    rw [cfl_end hf] at hl
    simp at hl; omega
def cvs (q : Rat) : List Rat := (List.range (cfl q).length).map fun j => ((css ((cfl q).take (j + 1))).p : Rat) / (css ((cfl q).take (j + 1))).r
theorem cvs_length (q : Rat) : (cvs q).length = (cfl q).length := by simp [cvs]
theorem cvs_get (q : Rat) {k : Nat} (hk : k < (cvs q).length) : (cvs q)[k] = ((css ((cfl q).take (k + 1))).p : Rat) / (css ((cfl q).take (k + 1))).r := by simp [cvs]
theorem cv_bounds (q : Rat) {m : Nat} (hq : Sz m q) {k : Nat} (hk : k ≤ (cfl q).length) : ZB (m + 1) (css ((cfl q).take k)).p ∧ ZB (m + 1) (css ((cfl q).take k)).r := by
  by_cases h0 : k = 0
  · subst h0
    simp only [List.take_zero, css, List.foldl_nil, cs0]
    exact ⟨ZB.one (by omega), ZB.zero⟩
  · by_cases hl : k = (cfl q).length
    · obtain ⟨j, rfl⟩ : ∃ j, k = j + 1 := ⟨k - 1, by omega⟩
      obtain ⟨x, hd, cv, _, _⟩ := cv_state q j (by omega)
      obtain ⟨e1, e2, e3⟩ := cv_next q (by omega) hd
      have := cv.last (e3.1 hl)
      rw [e2, this.1, this.2]
      exact ⟨hq.num.mono (by omega), hq.den.mono (by omega)⟩
    · obtain ⟨x, hd, cv, h1, _⟩ := cv_state q k (by omega)
      have hb := cv.bound (Rat.le_of_lt (h1 (by omega)).1)
      have hn := hq.num
      have hdn := hq.den
      have r0 := cv.r0
      unfold ZB at *
      rw [Nat.pow_succ]
      rw [Int.natAbs_natCast] at hdn
      have : 1 ≤ 2 ^ m := Nat.one_le_two_pow
      constructor <;> omega
theorem cv_parts (q : Rat) {k : Nat} (hk : k < (cfl q).length) : 0 < (css ((cfl q).take (k + 1))).r ∧ (((css ((cfl q).take (k + 1))).p : Rat) / (css ((cfl q).take (k + 1))).r).num = (css ((cfl q).take (k + 1))).p ∧ ((((css ((cfl q).take (k + 1))).p : Rat) / (css ((cfl q).take (k + 1))).r).den : Int) = (css ((cfl q).take (k + 1))).r := by
  obtain ⟨x, hd, cv, h1, _⟩ := cv_state q k hk
  obtain ⟨e1, e2, e3⟩ := cv_next q hk hd
  have hdet := CS.det_next x.floor cv.det
  have hr : 0 < ((css ((cfl q).take k)).next x.floor).r := by
    by_cases h0 : k = 0
    · rw [h0]; simp [css, cs0, CS.next]
    · have hr := (h1 (by omega)).2
      have hf : 1 ≤ x.floor := Rat.le_floor_iff.2 (by simpa using Rat.le_of_lt (h1 (by omega)).1)
      have hm : (css ((cfl q).take k)).r * 1 ≤ (css ((cfl q).take k)).r * x.floor := Int.mul_le_mul_of_nonneg_left hf (by omega)
      have := cv.r0
      simp only [CS.next]; rw [Int.mul_comm]; omega
  rw [e2]
  have := CS.parts hdet hr
  exact ⟨hr, this.1, this.2⟩
end Go.Proofs.YtgnclfejnndicaaGreatDoor
/-
  Quotients and convergents: the program's.
-/
namespace Go.Proofs.YtgnclfejnndicaaGreatDoor
open Go
set_option maxRecDepth 20000
abbrev sv (a : Int) : Value := .string (bs (txtI a))
abbrev qv (a : Rat) : Value := .string (bs (txtQ a))
theorem rv_txtI (z : Int) : rv (txtI z) = (z : Rat) := by rw [txtI_eq, rv_txt]
theorem Tx.int {m : Nat} {z : Int} (h : ZB m z) (hm1 : 1 ≤ m) (hm : m ≤ 568) : Tx m (txtI z) := ⟨by have := txtI_len h; omega, by rw [rv_txtI]; exact Sz.int h hm1⟩
theorem txtI_inj {a b : Int} (h : txtI a = txtI b) : a = b := by
  rw [txtI_eq, txtI_eq] at h
  exact Rat.intCast_inj.1 (txtQ_inj h)
theorem txtI_one : txtI 1 = [49] := by simp [txtI, digs, dd_pos, dd_zero, dch]
theorem txtI_zero : txtI 0 = [48] := by simp [txtI, digs]
section
variable {h g : Heap} {K : Value → Heap → Prop} {m : Nat} {q : Rat}
theorem equotients_spec (gl : Gl h) (hq : Sz m q) (hm1 : 1 ≤ m) (hm : m ≤ 280) (hK : ∀ A n c h', h.le h' → n = (cfl q).length → n ≤ c → n ≤ 1000 → SlV h' A ((cfl q).map sv) → K (.slice A n c) h') : FCall Tryz.prog f_EQuotients #[.string (bs (txtQ q))] h K := by
  refine EQuotients_ok _ ?_
  unfold EQuotients
  refine ⟨fun s hp => ∃ (x : Rat) (dn : List Int) (A : Option Addr) (n c : Nat) (g : Heap), s = [qv x, .slice A n c] ∧ cfl q = dn ++ cfl x ∧ h.le g ∧ Priv hp g ty_tStrings_e 1 A n c (dn.map sv) ∧ n = dn.length ∧ Sz m x ∧ (dn = [] ∨ (1 < x ∧ x.num.natAbs * x.den * 2 ^ (dn.length - 1) < 2 ^ (2 * m))), fun s _ => match s with | [.string b, _] => (rv b.data.toList).den | _ => 0, ⟨q, [], none, 0, 0, h, rfl, rfl, Heap.le_refl h, Priv.nil _ _ _ _, rfl, hq, .inl rfl⟩, ?_⟩
  rintro q1 lA ln lc hp ⟨x, dn, A, n, c, g, hs, hc, lg, p, hn, sx, hb⟩
  simp only [List.cons.injEq, Value.slice.injEq, Value.string.injEq, and_true] at hs
  obtain ⟨rfl, rfl, rfl, rfl⟩ := hs
  have hdl : dn.length ≤ 600 := by
    rcases hb with hb | ⟨h1, h2⟩
    · subst hb; simp
    · have hx0 : 0 < x.num := num_pos' (by grind)
      have h3 : 1 ≤ x.num.natAbs * x.den := Nat.mul_pos (by omega) (Nat.pos_of_ne_zero x.den_nz)
      have h4 : 1 * 2 ^ (dn.length - 1) ≤ x.num.natAbs * x.den * 2 ^ (dn.length - 1) := Nat.mul_le_mul_right _ h3
      have h5 : 2 ^ (dn.length - 1) < 2 ^ (2 * m) := by omega
      have := (Nat.pow_lt_pow_iff_right (a := 2) (by decide)).1 h5
      omega
  have lhp : h.le hp := Heap.le_trans lg p.le
  have tx := Tx.of sx (by omega)
  have sf := floor_sz sx hm1
  refine tfloor_spec (gl.mono lhp) tx (by omega) ⟨_, rfl, ?_⟩
  rw [rv_txt]
  refine push_ok tStrings p rfl rfl (by omega) (by omega) ?_
  intro A' c' h' g' lg' p'
  rw [show dn.map sv ++ [Value.string (bs (txtI x.floor))] = (dn ++ [x.floor]).map sv by simp] at p'
  have lh' : h.le h' := Heap.le_trans lg (Heap.le_trans lg' p'.le)
  rw [bs_beq, txtI_eq]
  refine Br.dec (fun e => ?_) (fun e => ?_)
  · have hf := txtQ_inj e
    rw [cfl_end hf] at hc
    refine hK _ _ _ _ lh' (by rw [hc]; simp; omega) p'.2.1 (by omega) ?_
    rw [hc]; exact p'.slV
  · have hf : (x.floor : Rat) ≠ x := fun e0 => e (by rw [e0])
    have hlt := Rat.lt_of_le_of_ne (Rat.floor_le x) hf
    have hlt2 := (ceil_facts x).2.2.2
    obtain ⟨s1, s2⟩ := step_sz sx hlt hlt2
    obtain ⟨e1, e2, e3, e4⟩ := cf_step hlt hlt2
    refine tsub_spec (gl.mono lh') tx (Tx.of sf (by omega)) (by omega) ⟨_, rfl, ?_⟩
    rw [rv_txt, rv_txt]
    refine einverse_spec (gl.mono lh') s1 hm1 (by omega) (by grind) ⟨_, rfl, ?_⟩
    refine ⟨⟨(x - x.floor)⁻¹, dn ++ [x.floor], A', ln + 1, c', g', rfl, by rw [hc, cfl_step hf]; simp, Heap.le_trans lg lg', p', by simp; omega, s2, .inr ⟨e4, ?_⟩⟩, ?_⟩
    · rcases hb with hb | ⟨h1, h2⟩
      · subst hb
        simp only [List.nil_append, List.length_singleton, Nat.sub_self, Nat.pow_zero, Nat.mul_one]
        rw [e1, Int.natAbs_natCast]
        have hd := sx.den
        unfold ZB at hd
        rw [Int.natAbs_natCast] at hd
        rw [show 2 * m = m + m by omega, Nat.pow_add]
        exact Nat.mul_lt_mul'' hd (by omega)
      · have hh := cf_half h1 hlt
        by_cases h0 : dn = []
        · subst h0
          simp only [List.nil_append, List.length_singleton, List.length_nil, Nat.sub_self, Nat.pow_zero, Nat.mul_one, Nat.zero_sub] at h2 ⊢
          omega
        · have hne : 1 ≤ dn.length := by
            apply Classical.byContradiction
            intro h0'
            exact h0 (List.eq_nil_of_length_eq_zero (by omega))
          rw [List.length_append, List.length_singleton, Nat.add_sub_cancel]
          have e5 : 2 ^ dn.length = 2 * 2 ^ (dn.length - 1) := by
            rw [← Nat.pow_succ']; congr 1; omega
          rw [e5]
          generalize (x - x.floor)⁻¹.num.natAbs * (x - x.floor)⁻¹.den = P at *
          generalize x.num.natAbs * x.den = Q at *
          generalize 2 ^ (dn.length - 1) = R at *
          have : 2 * P * R ≤ Q * R := Nat.mul_le_mul_right _ (by omega)
          have e6 : P * (2 * R) = 2 * P * R := by rw [← Nat.mul_assoc, Nat.mul_comm P 2]
          omega
    · simp only [bs_data, rv_txt]; exact e3
theorem tmulI_spec {x y : Int} {a b : Nat} (gl : Gl h) (hx : ZB a x) (hy : ZB b y) (ha : 1 ≤ a ∧ a ≤ 568) (hb : 1 ≤ b ∧ b ≤ 568) (hK : K (.string (bs (txtI (x * y)))) h) : FCall Tryz.prog f_TMul #[sv x, sv y] h K := by
  have t1 : Tx 568 (txtI x) := Tx.int (hx.mono ha.2) (by omega) (by omega)
  have t2 : Tx 568 (txtI y) := Tx.int (hy.mono hb.2) (by omega) (by omega)
  refine tmul_spec gl t1 t2 (by omega) ?_
  rw [rv_txtI, rv_txtI, ← Rat.intCast_mul, ← txtI_eq]; exact hK
theorem taddI_spec {x y : Int} {a b : Nat} (gl : Gl h) (hx : ZB a x) (hy : ZB b y) (ha : 1 ≤ a ∧ a ≤ 568) (hb : 1 ≤ b ∧ b ≤ 568) (hK : K (.string (bs (txtI (x + y)))) h) : FCall Tryz.prog f_TAdd #[sv x, sv y] h K := by
  have t1 : Tx 568 (txtI x) := Tx.int (hx.mono ha.2) (by omega) (by omega)
  have t2 : Tx 568 (txtI y) := Tx.int (hy.mono hb.2) (by omega) (by omega)
  refine tadd_spec gl t1 t2 (by omega) ?_
  rw [rv_txtI, rv_txtI, ← Rat.intCast_add, ← txtI_eq]; exact hK
theorem eafter_spec {s : CS} {a : Int} {k : Nat} (gl : Gl h) (ha : ZB k a) (h1 : ZB k s.p) (h2 : ZB k s.r) (h3 : ZB k s.p') (h4 : ZB k s.r') (hk1 : 1 ≤ k) (hk : k ≤ 284) (hK : K (.agg #[sv (s.next a).p, sv (s.next a).r]) h) : FCall Tryz.prog f_EAfter #[.agg #[sv s.p, sv s.r], .agg #[sv s.p', sv s.r'], sv a] h K := by
  refine EAfter_ok _ _ _ _ _ ?_
  unfold EAfter
  refine tmulI_spec gl ha h1 (by omega) (by omega) ⟨_, rfl, Heap.le_refl _, ?_⟩
  refine taddI_spec gl h3 (ha.mul h1) (by omega) (by omega) ⟨_, rfl, Heap.le_refl _, ?_⟩
  refine tmulI_spec gl ha h2 (by omega) (by omega) ⟨_, rfl, Heap.le_refl _, ?_⟩
  exact taddI_spec gl h4 (ha.mul h2) (by omega) (by omega) ⟨_, rfl, Heap.le_refl _, hK⟩
theorem enumber_spec {v : Rat} {p r : Int} (h1 : v.num = p) (h2 : (v.den : Int) = r) (hl : (txtI p).length ≤ 10000) (hl2 : (txtI r).length ≤ 10000) (hK : K (qv v) h) : FCall Tryz.prog f_ENumber #[.agg #[sv p, sv r]] h K := by
  subst h1 h2
  refine ENumber_ok _ _ ?_
  unfold ENumber
  have e49 : ((bs (txtI (v.den : Int))).toList == ({ data := #[49] } : ByteArray).toList) = decide (txtI (v.den : Int) = [49]) := bs_beq _ [49]
  rw [e49]
  refine Br.dec (fun e => ?_) (fun e => ?_)
  · rw [← txtI_one] at e
    have hd : v.den = 1 := by have := txtI_inj e; omega
    rw [show qv v = .string (bs (txtQ v)) from rfl, txtQ_int hd] at hK
    exact hK
  · have hd : v.den ≠ 1 := fun e0 => e (by rw [e0]; exact txtI_one)
    rw [show qv v = .string (bs (txtQ v)) from rfl, txtQ_frac hd] at hK
    have e47 : ({ data := #[47] } : ByteArray) = bs [47] := rfl
    rw [e47, bs_append, bs_append, bs_size, bs_size, bs_size, bs_size]
    exact ⟨by simp; omega, by simp; omega, hK⟩
theorem econvergents_spec (gl : Gl h) (hq : Sz m q) (hm1 : 1 ≤ m) (hm : m ≤ 280) (hK : ∀ A n c h', h.le h' → n = (cvs q).length → n ≤ c → n ≤ 1000 → SlV h' A ((cvs q).map qv) → K (.tuple #[.slice A n c, I 0]) h') : FCall Tryz.prog f_EConvergents #[.string (bs (txtQ q))] h K := by
  refine EConvergents_ok _ ?_
  unfold EConvergents
  have hlen := (Tx.of hq (by omega)).len
  refine valid_spec gl hlen (fun _ => ?_) (fun e => absurd ⟨q, rfl⟩ e)
  refine ⟨_, rfl, Br.not ?_⟩
  refine equotients_spec gl hq hm1 hm ?_
  intro QA Qn Qc h1 l1 hQn hQc hQb sQ
  refine ⟨_, _, _, rfl, ?_⟩
  subst hQn
  have i0 : txtI cs0.p' = [48] := txtI_zero
  refine ⟨fun s hp => ∃ (k : Nat) (A : Option Addr) (c : Nat) (g : Heap), s = [.slice A k c, I k, sv (css ((cfl q).take k)).p', sv (css ((cfl q).take k)).r', sv (css ((cfl q).take k)).p, sv (css ((cfl q).take k)).r] ∧ k ≤ (cfl q).length ∧ h1.le g ∧ Priv hp g ty_tStrings_e 1 A k c (((cvs q).take k).map qv), fun s _ => (cfl q).length - (iAt s 1).toNat, ⟨0, none, 0, h1, ?_, by omega, Heap.le_refl _, by simpa using Priv.nil _ _ _ _⟩, ?_⟩
  · simp only [List.take_zero, css, List.foldl_nil, cs0]
    rw [show (sv 0) = Value.string ({ data := #[48] } : ByteArray) by show Value.string (bs (txtI 0)) = _; rw [txtI_zero]; rfl, show (sv 1) = Value.string ({ data := #[49] } : ByteArray) by show Value.string (bs (txtI 1)) = _; rw [txtI_one]; rfl]
    rfl
  rintro lA ln lc t17 b0 b1 c0 c1 hp2 ⟨k, A, c, g, hs, hk, lg, p⟩
  simp only [List.cons.injEq, Value.slice.injEq, Value.string.injEq, Value.int.injEq, and_true, true_and] at hs
  obtain ⟨⟨rfl, rfl, rfl⟩, rfl, rfl, rfl, rfl, rfl⟩ := hs
  have lp : h1.le hp2 := Heap.le_trans lg p.le
  have lhp : h.le hp2 := Heap.le_trans l1 lp
  refine Br.dec (fun hlt => ?_) (fun hge => ?_)
  · have hkl : ln < (cfl q).length := by omega
    obtain ⟨a, ha, hcell⟩ := SlV.at (SlV.mono lp sQ) (i := ln) (by simpa using hkl)
    obtain ⟨x, hd, cv, hx1, _⟩ := cv_state q ln hkl
    obtain ⟨e1, e2, e3⟩ := cv_next q hkl hd
    have hcell' : hp2.cell? (a.add ((ln : Int).toNat * 1)) = some (sv x.floor) := by
      rw [Int.toNat_natCast, Nat.mul_one, hcell]; simp [e1]
    refine ⟨a, ha, by omega, by omega, bs (txtI x.floor), hcell', ?_⟩
    obtain ⟨z1, z2⟩ := cv_bounds q hq (k := ln) hk
    obtain ⟨y1, y2⟩ := cv_bounds q hq (k := ln + 1) (by omega)
    have zpr : ZB (m + 1) (css ((cfl q).take ln)).p' ∧ ZB (m + 1) (css ((cfl q).take ln)).r' := by
      by_cases h0 : ln = 0
      · subst h0
        simp only [List.take_zero, css, List.foldl_nil, cs0]
        exact ⟨ZB.zero, ZB.one (by omega)⟩
      · obtain ⟨j, rfl⟩ : ∃ j, ln = j + 1 := ⟨ln - 1, by omega⟩
        obtain ⟨w1, w2⟩ := cv_bounds q hq (k := j) (by omega)
        rw [List.take_succ_eq_append_getElem (by omega), css_snoc]
        exact ⟨w1, w2⟩
    have hfa : ZB (m + 1) x.floor := by
      by_cases h0 : ln = 0
      · subst h0
        have hh : (cfl q)[0] = q.floor := by obtain ⟨t, ht⟩ := cfl_head q; simp [ht]
        rw [← e1, hh]; exact (floor_zb hq).mono (by omega)
      · have hx := (hx1 (by omega))
        have hxb : x.num ≤ q.den := by
          have hr := cv.r0
          have h5 : 1 * x.num ≤ (css ((cfl q).take ln)).r * x.num := Int.mul_le_mul_of_nonneg_right (by omega) (Int.le_of_lt (num_pos' (by grind)))
          have h6 : 0 ≤ (css ((cfl q).take ln)).r' * x.den := Int.mul_nonneg hr.2.1 (by omega)
          rw [cv.dq]; omega
        have hx0 := num_pos' (show 0 < x by grind)
        have hdn := hq.den
        rw [Rat.floor_def]
        refine ZB.mono (ZB.le (x := (q.den : Int)) hdn ?_) (by omega)
        refine Nat.le_trans (Int.natAbs_ediv_le_natAbs _ _) ?_
        omega
    refine eafter_spec (gl.mono lhp) hfa z1 z2 zpr.1 zpr.2 (by omega) (by omega) ⟨_, _, rfl, Heap.le_refl _, ?_⟩
    obtain ⟨_, v1, v2⟩ := cv_parts q hkl
    have hget := cvs_get q (k := ln) (by rw [cvs_length]; omega)
    rw [← hget, e2] at v1 v2
    rw [e2] at y1 y2
    refine enumber_spec v1 v2 (by have := txtI_len y1; omega) (by have := txtI_len y2; omega) ⟨_, rfl, ?_⟩
    refine push_ok tStrings p rfl rfl (by omega) (by omega) ?_
    intro A' c' h' g' lg' p'
    rw [wi64_id (by omega) (by omega)]
    refine ⟨⟨ln + 1, A', c', g', ?_, by omega, Heap.le_trans lg lg', ?_⟩, by simp only [iAt, List.getElem?_cons_zero, List.getElem?_cons_succ]; omega⟩
    · rw [e2]; rfl
    · rw [List.take_succ_eq_append_getElem (by rw [cvs_length]; omega), List.map_append]; exact p'
  · obtain rfl : ln = (cfl q).length := by omega
    refine hK _ _ _ _ lhp (by rw [cvs_length]) p.2.1 (by omega) ?_
    have := p.slV
    rwa [List.take_of_length_le (by rw [cvs_length]; omega)] at this
end
end Go.Proofs.YtgnclfejnndicaaGreatDoor
/-
  The law NearestConverges.
-/
namespace Go.Proofs.YtgnclfejnndicaaGreatDoor
open Go
set_option maxRecDepth 20000
section
variable {h g : Heap} {K : Value → Heap → Prop} {m : Nat} {p q : Rat} {a b : QV}
theorem Sz.ab {q : Rat} (h : Sz m q) : Sz m (ab q) := by
  unfold Go.Proofs.YtgnclfejnndicaaGreatDoor.ab; split
  · exact h.neg
  · exact h
end
end Go.Proofs.YtgnclfejnndicaaGreatDoor
/-
  Rows of rational numbers; Texts, SameStrings; the reference's quotients and convergents; the law NearestQuotients.
-/
namespace Go.Proofs.YtgnclfejnndicaaGreatDoor
open Go
set_option maxRecDepth 20000
abbrev QV.cs (w : QV) : List Value := [.bool w.s, .slice w.A w.n w.c, .bool w.s2, .slice w.A2 w.n2 w.c2]
def qcs (ws : List QV) : List Value := ws.flatMap QV.cs
theorem qcs_length (ws : List QV) : (qcs ws).length = ws.length * 4 := by
  induction ws with
  | nil => rfl
  | cons w r ih => simp only [qcs, List.flatMap_cons, List.length_append, List.length_cons] at ih ⊢; simp at ih ⊢; omega
theorem qcs_snoc (ws : List QV) (w : QV) : qcs (ws ++ [w]) = qcs ws ++ w.cs := by simp [qcs]
theorem qcs_get : ∀ (ws : List QV) {i : Nat} (hi : i < ws.length) {j : Nat}, j < 4 → (qcs ws)[i * 4 + j]? = (ws[i].cs)[j]?
  | [], i, hi, j, hj => by simp at hi
  | w :: r, 0, hi, j, hj => by
    simp only [qcs, List.flatMap_cons, Nat.zero_mul, Nat.zero_add, List.getElem_cons_zero]
    rw [List.getElem?_append_left (by simpa using hj)]
  | w :: r, i + 1, hi, j, hj => by
    have := qcs_get r (i := i) (by simpa using hi) hj
    simp only [qcs, List.flatMap_cons, List.getElem_cons_succ] at this ⊢
    rw [List.getElem?_append_right (by simp; omega)]
    rw [← this]
    congr 1
    simp; omega
theorem Priv.slV4 {h g : Heap} {e : TypeId} {A : Option Addr} {n c : Nat} {xs : List Value} (p : Priv h g e 4 A n c xs) : SlV h A xs := by
  rcases p.2.2 with ⟨rfl, rfl⟩ | ⟨b, arr, rfl, hb, rfl, hl, ht⟩
  · left
    have := p.1; have := p.2.1
    exact List.eq_nil_of_length_eq_zero (by omega)
  · right
    refine ⟨_, rfl, fun i v hv => ?_⟩
    rw [add_at, Heap.cell_put]
    rw [← ht, List.getElem?_take] at hv
    split at hv
    · simpa using hv
    · cases hv
structure RowQ (h : Heap) (A : Option Addr) (ws : List QV) (qs : List Rat) : Prop where
  cells : SlV h A (qcs ws)
  len : ws.length = qs.length
  nums : ∀ i (hi : i < ws.length) (hj : i < qs.length), NQ h ws[i] qs[i]
theorem RowQ.mono {h h' : Heap} (l : h.le h') {A : Option Addr} {ws : List QV} {qs : List Rat} (r : RowQ h A ws qs) : RowQ h' A ws qs := ⟨r.cells.mono l, r.len, fun i hi hj => (r.nums i hi hj).mono l⟩
theorem RowQ.at {h : Heap} {A : Option Addr} {ws : List QV} {qs : List Rat} (r : RowQ h A ws qs) {i : Nat} (hi : i < ws.length) : ∃ a, A = some a ∧ h.cell? (Addr.add (Addr.add a (i * 4)) 0) = some (.bool ws[i].s) ∧ h.cell? (Addr.add (Addr.add a (i * 4)) 1) = some (.slice ws[i].A ws[i].n ws[i].c) ∧ h.cell? (Addr.add (Addr.add a (i * 4)) 2) = some (.bool ws[i].s2) ∧ h.cell? (Addr.add (Addr.add a (i * 4)) 3) = some (.slice ws[i].A2 ws[i].n2 ws[i].c2) := by
  rcases r.cells with h0 | ⟨a, ha, hc⟩
  · have := congrArg List.length h0
    rw [qcs_length] at this; simp at this; omega
  · have key : ∀ j, j < 4 → ∀ v, (ws[i].cs)[j]? = some v → h.cell? (Addr.add (Addr.add a (i * 4)) j) = some v := by
      intro j hj v hv
      rw [add_add']
      exact hc _ _ (by rw [qcs_get ws hi hj]; exact hv)
    exact ⟨a, ha, key 0 (by omega) _ rfl, key 1 (by omega) _ rfl, key 2 (by omega) _ rfl, key 3 (by omega) _ rfl⟩
section
variable {h g : Heap} {K : Value → Heap → Prop} {m : Nat} {q : Rat}
theorem pushQ_ok {A : Option Addr} {n c : Nat} {ws : List QV} {w : QV} (p : Priv h g ty_tRats_e 4 A n c (qcs ws)) (hn : n ≤ 1000000)
    {KK : Option Addr → Nat → Nat → Heap → Prop} (x : ∀ A' c' h' g', g.le g' → Priv h' g' ty_tRats_e 4 A' (n + 1) c' (qcs (ws ++ [w])) → KK A' (n + 1) c' h') :
    wpH Tryz.prog (Instr.buildSlice ty_tRats 1 #[(0, w.v)]) (fun v1 hp1 => ∃ (A1 : Option Addr) (n1 c1 : Nat), v1 = .slice A1 n1 c1 ∧ wpH Tryz.prog (Builtin.append_ #[ty_tRats, ty_tRats] ty_tRats #[.slice A n c, .slice A1 n1 c1]) (fun v2 hp2 => ∃ (A2 : Option Addr) (n2 c2 : Nat), v2 = .slice A2 n2 c2 ∧ KK A2 n2 c2 hp2) hp1) h := by
  have hr : repCells (Value.agg #[.bool false, .slice none 0 0, .bool false, .slice none 0 0]).cells 1 = #[.bool false, .slice none 0 0, .bool false, .slice none 0 0] := by kernel_rfl
  refine buildSlice_ok tRats (by omega) (cells := w.cs.toArray) (by rw [hr]; simp [Instr.fill, Value.cells]) ?_
  intro b hfree
  refine ⟨_, _, _, rfl, ?_⟩
  have p' := p.put hfree (.cells w.cs.toArray ty_tRats_e)
  have lgg := p.le_put' hfree (.cells w.cs.toArray ty_tRats_e)
  refine append_ok tRats p' (m := 1) (ys := w.cs) rfl (.inr ⟨⟨b, 0, none⟩, rfl, fun j u hj => ?_⟩) (fun u hu => ?_) (by omega) (by omega) ?_
  · rw [add_at, Heap.cell_put, Nat.zero_add]
    simpa using hj
  · simp only [List.mem_cons, List.not_mem_nil, or_false] at hu
    rcases hu with rfl | rfl | rfl | rfl <;> rfl
  · intro A' c' h' g' hg p2
    rw [← qcs_snoc] at p2
    exact ⟨_, _, _, rfl, x A' c' h' g' (Heap.le_trans lgg hg) p2⟩
theorem RowQ.push {ws : List QV} {w : QV} {qs : List Rat} {r : Rat} {g' : Heap} (l : g.le g') (len : ws.length = qs.length) (nums : ∀ i (hi : i < ws.length) (hj : i < qs.length), NQ g ws[i] qs[i]) (iw : NQ g' w r) : ∀ i (hi : i < (ws ++ [w]).length) (hj : i < (qs ++ [r]).length), NQ g' (ws ++ [w])[i] (qs ++ [r])[i] := by
  intro i hi hj
  by_cases h1 : i < ws.length
  · rw [List.getElem_append_left h1, List.getElem_append_left (by omega)]
    exact (nums i h1 (by omega)).mono l
  · have : i = ws.length := by simp at hi; omega
    subst this
    simp only [List.getElem_concat_length]
    rw [List.getElem_append_right (by omega)]
    simpa [len] using iw
theorem sameStrings_spec {A B : Option Addr} {an ac bn bc : Nat} {xs ys : List (List UInt8)} (sa : SlV h A (xs.map fun l => Value.string (bs l))) (sb : SlV h B (ys.map fun l => Value.string (bs l))) (ha : an = xs.length) (hb : bn = ys.length) (hl : an ≤ 1000000) (hK : xs = ys → K (.bool true) h) (hne : xs ≠ ys → False) : FCall Tryz.prog f_GSameStrings #[.slice A an ac, .slice B bn bc] h K := by
  have e : xs = ys := Classical.byContradiction hne
  subst e
  refine GSameStrings_ok _ _ _ _ _ _ ?_
  unfold GSameStrings
  refine Br.bne (fun e => absurd (by omega) e) (fun _ => ?_)
  refine ⟨fun L hp => hp = h ∧ ∃ k : Nat, L = [I k] ∧ k ≤ an, fun L _ => an - (iAt L 0).toNat, ⟨rfl, 0, rfl, by omega⟩, ?_⟩
  rintro t13 hp ⟨rfl, k, hL, hk⟩
  obtain rfl : t13 = (k : Int) := by simpa using hL
  refine Br.dec (fun hlt => ?_) (fun hge => hK rfl)
  obtain ⟨a, e1, c1⟩ := SlV.at sa (i := k) (by simp; omega)
  obtain ⟨b, e2, c2⟩ := SlV.at sb (i := k) (by simp; omega)
  have hkx : k < xs.length := by omega
  refine ⟨a, e1, by omega, by omega, bs xs[k], by rw [Int.toNat_natCast, Nat.mul_one, c1]; simp, b, e2, by omega, by omega, bs xs[k], by rw [Int.toNat_natCast, Nat.mul_one, c2]; simp, ?_⟩
  rw [bs_beq]
  refine Br.of (fun e => by simp at e) (fun _ => ?_)
  rw [wi64_id (by omega) (by omega)]
  exact ⟨⟨rfl, k + 1, rfl, by omega⟩, by simp only [iAt, List.getElem?_cons_zero]; omega⟩
theorem string_one : Tryz.prog.cellsOf ty_string = 1 ∧ (Tryz.prog.info? ty_string).isSome = true := tStrings_one
theorem storeFillV_ok {P : Program} {t : TypeId} (one : P.cellsOf t = 1 ∧ (P.info? t).isSome = true) {α : Type} {f : α → Value} {z : Value} {i : Nat} {g : Heap} {b : Nat} {e : TypeId} {zs : List α} (hi : i < zs.length) (h1 : oneC (f zs[i]) = true) (h2 : (f zs[i]).cells = #[f zs[i]]) {K : Unit → Heap → Prop}
    (x : K () (g.put b (.cells (fillL f z zs (i + 1)).toArray e))) : wpH P (Instr.storeAt t (.pointer (some (Addr.add ⟨b, 0, none⟩ ((i : Int).toNat * 1)))) (f zs[i])) K (g.put b (.cells (fillL f z zs i).toArray e)) := by
  rw [add_at, Nat.mul_one, Nat.zero_add, Int.toNat_natCast]
  refine store1_ok one.1 one.2 h1 h2 (by have := fillL_length f z zs (k := i) (by omega); simp; omega) ?_
  have : (fillL f z zs i).toArray.setIfInBounds i (f zs[i]) = (fillL f z zs (i + 1)).toArray := by
    rw [← fillL_set f z zs hi]; simp
  rw [this]; exact x
theorem texts_spec {A : Option Addr} {n c : Nat} {ws : List QV} {qs : List Rat} (r : RowQ h A ws qs) (hn : n = ws.length) (hl : n ≤ 1000000) (hs : ∀ q ∈ qs, Sz m q) (hm : m ≤ 1000000000) (hK : ∀ B c' h', h.le h' → SlV h' B (qs.map qv) → K (.slice B n c') h') : FCall Tryz.prog f_NTexts #[.slice A n c] h K := by
  subst hn
  refine NTexts_ok _ _ _ ?_
  unfold NTexts
  refine make_ok tStrings (by omega) (Int.le_refl _) (by omega) (by omega) ?_
  intro b hb
  refine ⟨_, _, _, rfl, ?_⟩
  rw [Int.toNat_natCast]
  have e0 : repCells (Value.string { data := #[] }).cells ws.length = (fillL qv (.string { data := #[] }) qs 0).toArray := by
    rw [fillL_zero, ← r.len]; exact repCells_one _ _
  refine ⟨fun L hp => ∃ k : Nat, L = [I k] ∧ k ≤ ws.length ∧ hp = h.put b (.cells (fillL qv (.string { data := #[] }) qs k).toArray ty_tStrings_e), fun L _ => ws.length - (iAt L 0).toNat, ⟨0, rfl, by omega, by rw [← e0]⟩, ?_⟩
  rintro i hp1 ⟨k, hL, hk, rfl⟩
  obtain rfl : i = (k : Int) := by simpa using hL
  have hle := Heap.le_put (.cells (fillL qv (.string { data := #[] }) qs k).toArray ty_tStrings_e) hb
  have hlen := r.len
  refine Br.dec (fun hlt => ?_) (fun hge => ?_)
  · have hkw : k < ws.length := by omega
    obtain ⟨a, ha, k0, k1, k2, k3⟩ := (r.mono hle).at hkw
    rw [Int.toNat_natCast]
    refine ⟨a, ha, by omega, by omega, _, _, _, _, _, _, _, _, k0, k1, k2, k3, ?_⟩
    refine text_spec ((r.mono hle).nums k hkw (by omega)) (hs _ (List.getElem_mem _)) hm ⟨_, rfl, _, rfl, by omega, by omega, ?_⟩
    rw [show (k * 1) = ((k : Int).toNat * 1) by rw [Int.toNat_natCast]]
    refine storeFillV_ok (t := ty_string) string_one (f := qv) (i := k) (by omega) rfl rfl ?_
    rw [wi64_id (by omega) (by omega)]
    exact ⟨⟨k + 1, rfl, by omega, rfl⟩, by simp only [iAt, List.getElem?_cons_zero]; omega⟩
  · obtain rfl : k = ws.length := by omega
    refine hK _ _ _ hle (.inr ⟨_, rfl, fun j v hv => ?_⟩)
    rw [hlen, fillL_all, add_at, Heap.cell_put, Nat.zero_add]
    simpa using hv
end
end Go.Proofs.YtgnclfejnndicaaGreatDoor
/-
  The reference's quotients and convergents; the law NearestQuotients.
-/
namespace Go.Proofs.YtgnclfejnndicaaGreatDoor
open Go
set_option maxRecDepth 20000
theorem Priv.call' {P : Program} {f : FuncId} {args : Array Value} {h g : Heap} {e : TypeId} {s : Nat} {A : Option Addr} {n c : Nat} {xs : List Value} (p : Priv h g e s A n c xs) {K : Value → Heap → Prop} (x : FCall P f args g (fun r h0 => g.le h0 ∧ ∀ h', h.le h' → Priv h' h0 e s A n c xs → K r h')) : FCall P f args h K := by
  rcases p with ⟨h1, hnc, ⟨hc0, rfl⟩ | ⟨b, arr, hA, hgb, rfl, har⟩⟩
  · exact x.mono fun r h0 hk => hk.2 h0 hk.1 ⟨h1, hnc, .inl ⟨hc0, rfl⟩⟩
  · refine FCall.frame hgb x fun r h0 h0b hk => hk.2 _ ?_ ⟨h1, hnc, .inr ⟨b, arr, hA, h0b, rfl, har⟩⟩
    intro j o hj
    by_cases hjb : j = b
    · subst hjb; rw [Heap.put_same] at hj ⊢; exact hj
    · rw [Heap.put_other _ _ hjb] at hj ⊢; exact hk.1 j o hj
abbrev zq (l : List Int) : List Rat := l.map fun (z : Int) => (z : Rat)
section
variable {h g : Heap} {K : Value → Heap → Prop} {m : Nat} {q : Rat}
theorem fquotients_spec {w : QV} (i : NQ h w q) (hq : Sz m q) (hm1 : 1 ≤ m) (hm : m ≤ 280) (hK : ∀ A n c ws h', h.le h' → n = (cfl q).length → n ≤ 1000 → ws.length = n → RowQ h' A ws (zq (cfl q)) → K (.slice A n c) h') : FCall Tryz.prog f_FQuotients #[w.v] h K := by
  refine FQuotients_ok _ _ _ _ _ _ _ _ ?_
  unfold FQuotients
  refine ⟨fun s hp => ∃ (x : Rat) (dn : List Int) (ws : List QV) (w : QV) (A : Option Addr) (n c : Nat) (g : Heap), s = [.slice A n c, .bool w.s, .slice w.A w.n w.c, .bool w.s2, .slice w.A2 w.n2 w.c2] ∧ cfl q = dn ++ cfl x ∧ h.le g ∧ Priv hp g ty_tRats_e 4 A n c (qcs ws) ∧ n = dn.length ∧ ws.length = (zq dn).length ∧ (∀ i (hi : i < ws.length) (hj : i < (zq dn).length), NQ g ws[i] (zq dn)[i]) ∧ NQ g w x ∧ Sz m x ∧ (dn = [] ∨ (1 < x ∧ x.num.natAbs * x.den * 2 ^ (dn.length - 1) < 2 ^ (2 * m))), fun s hp => match s with | [_, _, _, _, .slice A2 n2 _] => mval b32 hp A2 n2 | _ => 0, ⟨q, [], [], w, none, 0, 0, h, rfl, rfl, Heap.le_refl h, Priv.nil _ _ _ _, rfl, rfl, fun i hi => by simp at hi, i, hq, .inl rfl⟩, ?_⟩
  rintro oA on oc q0 qA qn qc q2 q3A q3n q3c hp ⟨x, dn, ws, w, A, n, c, g, hs, hc, lg, p, hn, hwl, nums, iw, sx, hb⟩
  simp only [List.cons.injEq, Value.slice.injEq, Value.bool.injEq, and_true] at hs
  obtain ⟨⟨rfl, rfl, rfl⟩, rfl, ⟨rfl, rfl, rfl⟩, rfl, rfl, rfl, rfl⟩ := hs
  have hdl : dn.length ≤ 600 := by
    rcases hb with hb | ⟨h1, h2⟩
    · subst hb; simp
    · have hx0 : 0 < x.num := num_pos' (by grind)
      have h3 : 1 ≤ x.num.natAbs * x.den := Nat.mul_pos (by omega) (Nat.pos_of_ne_zero x.den_nz)
      have h4 : 1 * 2 ^ (dn.length - 1) ≤ x.num.natAbs * x.den * 2 ^ (dn.length - 1) := Nat.mul_le_mul_right _ h3
      have h5 : 2 ^ (dn.length - 1) < 2 ^ (2 * m) := by omega
      have := (Nat.pow_lt_pow_iff_right (a := 2) (by decide)).1 h5
      omega
  have sf := floor_sz sx hm1
  refine p.call' (floor_spec iw sx (by omega) hm1 ?_)
  intro sF AF nF cF g1 lg1 iF
  refine ⟨lg1, fun h1 l1 p1 => ⟨_, _, _, _, rfl, ?_⟩⟩
  have qF := NQ.whole iF (B := none)
  refine pushQ_ok (w := ⟨sF, AF, nF, cF, false, none, 0, 0⟩) p1 (by omega) ?_
  intro A2 c2 h2 g2 lg2 p2
  have lgg : g.le g2 := Heap.le_trans lg1 lg2
  refine p2.call' (rsub_spec (b := ⟨sF, AF, nF, cF, false, none, 0, 0⟩) (iw.mono lgg) (qF.mono lg2) sx sf (by omega) ?_)
  intro w3 g3 lg3 i3
  refine ⟨lg3, fun h3 l3 p3 => ⟨_, _, _, _, _, _, _, _, rfl, ?_⟩⟩
  refine rsign_spec (i3.mono p3.le) ⟨_, rfl, Br.beq (fun e => ?_) (fun e => ?_)⟩
  · have hf : (x.floor : Rat) = x := by have := sgnQ_zero.1 e; grind
    rw [cfl_end hf] at hc
    have hnums := RowQ.push (Heap.le_trans lgg lg3) hwl nums (qF.mono (Heap.le_trans lg2 lg3))
    refine hK _ _ _ (ws ++ [⟨sF, AF, nF, cF, false, none, 0, 0⟩]) _ (Heap.le_trans lg (Heap.le_trans lgg (Heap.le_trans lg3 p3.le))) (by rw [hc]; simp; omega) (by omega) (by simp; simp at hwl; omega) ⟨p3.slV4, by rw [hc]; simp; simpa using hwl, ?_⟩
    intro k hk hj
    have hj' : k < (zq dn ++ [(x.floor : Rat)]).length := by rw [hc] at hj; simpa using hj
    have := (hnums k hk hj').mono p3.le
    simpa [hc] using this
  · have hf : (x.floor : Rat) ≠ x := fun e0 => e (by rw [sgnQ_zero, e0]; grind)
    have hlt := Rat.lt_of_le_of_ne (Rat.floor_le x) hf
    have hlt2 := (ceil_facts x).2.2.2
    obtain ⟨s1, s2⟩ := step_sz sx hlt hlt2
    obtain ⟨e1, e2, e3, e4⟩ := cf_step hlt hlt2
    refine p3.call' (fone_spec ?_)
    intro w4 g4 lg4 i4
    refine ⟨lg4, fun h4 l4 p4 => ⟨_, _, _, _, _, _, _, _, rfl, l4, p4.call' (rdiv_spec i4 (i3.mono lg4) (Sz.int (z := 1) (ZB.one hm1) hm1) s1 (by omega) ?_)⟩⟩
    intro w5 g5 lg5 i5
    rw [Rat.div_def] at i5
    have e1q : ((1 : Int) : Rat) * (x - x.floor)⁻¹ = (x - x.floor)⁻¹ := by rw [Rat.intCast_one, Rat.one_mul]
    have i5' : NQ g5 w5 (x - x.floor)⁻¹ := by
      first
      | (rw [e1q] at i5; exact i5)
      | (rw [Rat.one_mul] at i5; exact i5)
    have lg25 : g2.le g5 := Heap.le_trans lg3 (Heap.le_trans lg4 lg5)
    have hnums := RowQ.push (Heap.le_trans lgg lg25) hwl nums (qF.mono (Heap.le_trans lg2 lg25))
    refine ⟨lg5, fun h5 l5 p5 => ⟨_, _, _, _, _, _, _, _, rfl, l5, ⟨(x - x.floor)⁻¹, dn ++ [x.floor], ws ++ [⟨sF, AF, nF, cF, false, none, 0, 0⟩], w5, A2, on + 1, c2, g5, rfl, by rw [hc, cfl_step hf]; simp, Heap.le_trans lg (Heap.le_trans lgg lg25), p5, by simp; omega, by simp; simpa using hwl, ?_, i5', s2, .inr ⟨e4, ?_⟩⟩, ?_⟩⟩
    · intro k hk hj
      have := hnums k hk (by simpa using hj)
      simpa using this
    · rcases hb with hb | ⟨h1', h2'⟩
      · subst hb
        simp only [List.nil_append, List.length_singleton, Nat.sub_self, Nat.pow_zero, Nat.mul_one]
        rw [e1, Int.natAbs_natCast]
        have hd := sx.den
        unfold ZB at hd
        rw [Int.natAbs_natCast] at hd
        rw [show 2 * m = m + m by omega, Nat.pow_add]
        exact Nat.mul_lt_mul'' hd (by omega)
      · have hh := cf_half h1' hlt
        by_cases h0 : dn = []
        · subst h0
          simp only [List.nil_append, List.length_singleton, List.length_nil, Nat.sub_self, Nat.pow_zero, Nat.mul_one, Nat.zero_sub] at h2' ⊢
          omega
        · have hne : 1 ≤ dn.length := by
            apply Classical.byContradiction
            intro h0'
            exact h0 (List.eq_nil_of_length_eq_zero (by omega))
          rw [List.length_append, List.length_singleton, Nat.add_sub_cancel]
          have e5 : 2 ^ dn.length = 2 * 2 ^ (dn.length - 1) := by
            rw [← Nat.pow_succ']; congr 1; omega
          rw [e5]
          generalize (x - x.floor)⁻¹.num.natAbs * (x - x.floor)⁻¹.den = P at *
          generalize x.num.natAbs * x.den = Q at *
          generalize 2 ^ (dn.length - 1) = R at *
          have : 2 * P * R ≤ Q * R := Nat.mul_le_mul_right _ (by omega)
          have e6 : P * (2 * R) = 2 * P * R := by rw [← Nat.mul_assoc, Nat.mul_comm P 2]
          omega
    · show mval b32 h5 w5.A2 w5.n2 < mval b32 hp w.A2 w.n2
      rw [mval_eq (i5'.mono p5.le).den.mag, mval_eq (iw.mono p.le).den.mag]
      have hx1 : x.den ≠ 1 := by
        intro e1'
        apply hf
        have := eq_int e1'
        rw [this]; simp [Rat.floor_intCast]
      rw [if_neg hx1]
      have hx0 := x.den_nz
      have e3' := e3
      generalize (x - x.floor)⁻¹ = y at e3' ⊢
      rw [Int.natAbs_natCast, Int.toNat_natCast]
      split
      · simp; omega
      · rw [Int.natAbs_natCast, Int.toNat_natCast]; exact e3'
theorem cvv_cvs (q : Rat) {k : Nat} (hk : k < (cfl q).length) : cvv ((cfl q).take k) ((cfl q)[k] : Int) = ((css ((cfl q).take (k + 1))).p : Rat) / (css ((cfl q).take (k + 1))).r := by
  have hpos := (cfl_pos _ q (Nat.le_refl _)).2
  have hk1 : 0 < k → 1 ≤ (cfl q)[k] := fun h0 => hpos _ (by
    rw [List.mem_drop_iff_getElem]
    exact ⟨k - 1, by omega, by congr 1; omega⟩)
  have e := cvv_eq k ((cfl q).take k) ((cfl q)[k] : Int) (by rw [List.length_take]; omega) (fun a ha => hpos a (by
    rw [List.mem_drop_iff_getElem] at ha ⊢
    obtain ⟨i, hi, he⟩ := ha
    rw [List.length_take] at hi
    refine ⟨i, by omega, ?_⟩
    rw [List.getElem_take] at he
    exact he)) (by
    by_cases h0 : k = 0
    · left; rw [h0]; rfl
    · right
      have := hk1 (by omega)
      exact Rat.intCast_pos.2 (by omega))
  obtain ⟨hr, _, _⟩ := cv_parts q hk
  have e2 : css ((cfl q).take (k + 1)) = (css ((cfl q).take k)).next (cfl q)[k] := by
    rw [List.take_succ_eq_append_getElem hk, css_snoc]
  rw [e2] at hr ⊢
  have hr0 : (((css ((cfl q).take k)).next (cfl q)[k]).r : Rat) ≠ 0 := by
    have := Rat.intCast_pos.2 hr
    grind
  have e3 : cvv ((cfl q).take k) ((cfl q)[k] : Int) * ((css ((cfl q).take k)).next (cfl q)[k]).r = ((css ((cfl q).take k)).next (cfl q)[k]).p := by
    simp only [CS.next, Rat.intCast_add, Rat.intCast_mul]
    grind
  rw [← e3, Rat.mul_div_cancel hr0]
theorem fconvergents_spec {A : Option Addr} {n c : Nat} {ws : List QV} (r : RowQ h A ws (zq (cfl q))) (hn : n = ws.length) (_hq : Sz m q) (hm1 : 1 ≤ m) (hm : m ≤ 280) (hl : n ≤ 1000) (hz : ∀ a ∈ cfl q, ZB (m + 1) a) (hK : ∀ A' n' c' ws' h', h.le h' → n' = (cvs q).length → ws'.length = n' → RowQ h' A' ws' (cvs q) → K (.slice A' n' c') h') : FCall Tryz.prog f_FConvergents #[.slice A n c] h K := by
  have hwl : ws.length = (cfl q).length := by have := r.len; simpa using this
  have hcl := cvs_length q
  subst hn
  refine FConvergents_ok _ _ _ ?_
  unfold FConvergents
  refine ⟨fun s hp => ∃ (k : Nat) (us : List QV) (A : Option Addr) (c : Nat) (g : Heap), s = [.slice A k c, I k] ∧ k ≤ ws.length ∧ h.le g ∧ Priv hp g ty_tRats_e 4 A k c (qcs us) ∧ us.length = ((cvs q).take k).length ∧ (∀ i (hi : i < us.length) (hj : i < ((cvs q).take k).length), NQ g us[i] ((cvs q).take k)[i]), fun s _ => ws.length - (iAt s 1).toNat, ⟨0, [], none, 0, h, rfl, by omega, Heap.le_refl h, Priv.nil _ _ _ _, by simp, fun i hi => by simp at hi⟩, ?_⟩
  rintro oA on oc t9 hp ⟨k, us, A1, c1, g, hs, hk, lg, p, hul, nums⟩
  simp only [List.cons.injEq, Value.slice.injEq, Value.int.injEq, and_true, true_and] at hs
  obtain ⟨⟨rfl, rfl, rfl⟩, rfl⟩ := hs
  have lhp : h.le hp := Heap.le_trans lg p.le
  refine Br.dec (fun hlt => ?_) (fun hge => ?_)
  · have hkl : on < ws.length := by omega
    have hkc : on < (cfl q).length := by omega
    obtain ⟨a, ha, k0, k1, k2, k3⟩ := (r.mono lhp).at hkl
    rw [Int.toNat_natCast]
    refine ⟨a, ha, by omega, by omega, _, _, _, _, _, _, _, _, k0, k1, k2, k3, ?_⟩
    have ik : NQ h ws[on] ((cfl q)[on] : Int) := by
      have := r.nums on hkl (by simpa using hkc)
      simpa using this
    have zk : ∀ j (hj : j < (cfl q).length), Sz 282 (((cfl q)[j] : Int) : Rat) := fun j hj => Sz.int ((hz _ (List.getElem_mem hj)).mono (by omega)) (by omega)
    refine ⟨fun s hp1 => ∃ (j : Nat) (w : QV) (gi : Heap), s = [I ((j : Int) - 1), .bool w.s, .slice w.A w.n w.c, .bool w.s2, .slice w.A2 w.n2 w.c2] ∧ j ≤ on ∧ g.le gi ∧ Priv hp1 gi ty_tRats_e 4 oA on oc (qcs us) ∧ NQ gi w (cvv (((cfl q).take on).drop j) ((cfl q)[on] : Int)) ∧ Sz (283 * (on - j + 1)) (cvv (((cfl q).take on).drop j) ((cfl q)[on] : Int)), fun s _ => (iAt s 0 + 1).toNat, ⟨on, ws[on], g, by rw [wi64_id (by omega) (by omega)], Nat.le_refl _, Heap.le_refl _, p, ?_, ?_⟩, ?_⟩
    · rw [List.drop_of_length_le (by rw [List.length_take]; omega)]; exact ik.mono lg
    · rw [List.drop_of_length_le (by rw [List.length_take]; omega)]; exact (zk on hkc).mono (by omega)
    rintro i v0 v1A v1n v1c v2 v3A v3n v3c hp1 ⟨j, w, gi, hs, hj, lgi, pi, iw, sw⟩
    simp only [List.cons.injEq, Value.slice.injEq, Value.bool.injEq, Value.int.injEq, and_true, true_and] at hs
    obtain ⟨rfl, rfl, ⟨rfl, rfl, rfl⟩, rfl, rfl, rfl, rfl⟩ := hs
    refine Br.dec (fun hge => ?_) (fun hlt0 => ?_)
    · obtain ⟨b, rfl⟩ : ∃ b, j = b + 1 := ⟨j - 1, by omega⟩
      have hb : b < ws.length := by omega
      have hbc : b < (cfl q).length := by omega
      rw [show ((b + 1 : Nat) : Int) - 1 = (b : Int) by omega]
      have lhi : h.le hp1 := Heap.le_trans lg (Heap.le_trans lgi pi.le)
      obtain ⟨a', ha', m0, m1, m2, m3⟩ := (r.mono lhi).at hb
      rw [Int.toNat_natCast]
      refine ⟨a', ha', by omega, by omega, _, _, _, _, _, _, _, _, m0, m1, m2, m3, ?_⟩
      have ib : NQ h ws[b] ((cfl q)[b] : Int) := by
        have := r.nums b hb (by simpa using hbc)
        simpa using this
      refine pi.call' (fone_spec ?_)
      intro w1 g1 lg1 i1
      refine ⟨lg1, fun h1 l1 p1 => ⟨_, _, _, _, _, _, _, _, rfl, l1, p1.call' (rdiv_spec (m := 283 * (on - (b + 1) + 1)) i1 (iw.mono lg1) (Sz.int (z := 1) (ZB.one (by omega)) (by omega)) sw (by omega) ?_)⟩⟩
      intro w2 g2 lg2 i2
      rw [Rat.div_def] at i2
      have i2' : NQ g2 w2 (cvv (((cfl q).take on).drop (b + 1)) ((cfl q)[on] : Int))⁻¹ := by
        first
        | (rw [Rat.one_mul] at i2; exact i2)
        | (rw [Rat.intCast_one, Rat.one_mul] at i2; exact i2)
      have s2 := sw.inv (by omega)
      have lh2 : h.le g2 := Heap.le_trans lg (Heap.le_trans lgi (Heap.le_trans lg1 lg2))
      refine ⟨lg2, fun h2 l2 p2 => ⟨_, _, _, _, _, _, _, _, rfl, l2, p2.call' (radd_spec (m := 283 * (on - (b + 1) + 1)) (ib.mono lh2) i2' ((zk b hbc).mono (by omega)) s2 (by omega) ?_)⟩⟩
      intro w3 g3 lg3 i3
      have ed : ((cfl q).take on).drop b = (cfl q)[b] :: ((cfl q).take on).drop (b + 1) := by
        rw [List.drop_eq_getElem_cons (by rw [List.length_take]; omega)]
        simp
      have ec : cvv (((cfl q).take on).drop b) ((cfl q)[on] : Int) = ((cfl q)[b] : Int) + (cvv (((cfl q).take on).drop (b + 1)) ((cfl q)[on] : Int))⁻¹ := by rw [ed]; rfl
      rw [← ec] at i3
      refine ⟨lg3, fun h3 l3 p3 => ⟨_, _, _, _, _, _, _, _, rfl, l3, ?_⟩⟩
      rw [wi64_id (by omega) (by omega)]
      refine ⟨⟨b, w3, g3, rfl, by omega, Heap.le_trans lgi (Heap.le_trans lg1 (Heap.le_trans lg2 lg3)), p3, i3, ?_⟩, by simp only [iAt, List.getElem?_cons_zero]; omega⟩
      rw [ec]
      exact ((zk b hbc).add s2).mono (by
        have : on - b + 1 = (on - (b + 1) + 1) + 1 := by omega
        rw [this, Nat.mul_add]; omega)
    · obtain rfl : j = 0 := by omega
      rw [List.drop_zero, cvv_cvs q hkc] at iw
      refine pushQ_ok (w := w) pi (by omega) ?_
      intro A2 c2 h2 g2 lg2 p2
      rw [wi64_id (by omega) (by omega)]
      have hget := cvs_get q (k := on) (by omega)
      have ht : (cvs q).take (on + 1) = (cvs q).take on ++ [(cvs q)[on]'(by omega)] := List.take_succ_eq_append_getElem (by omega)
      have hnums := RowQ.push (Heap.le_trans lgi lg2) hul nums (iw.mono lg2)
      refine ⟨⟨on + 1, us ++ [w], A2, c2, g2, rfl, by omega, Heap.le_trans lg (Heap.le_trans lgi lg2), p2, by rw [ht, List.length_append, List.length_append, hul]; rfl, ?_⟩, by simp only [iAt, List.getElem?_cons_zero, List.getElem?_cons_succ]; omega⟩
      intro i hi hj
      have hj' : i < ((cvs q).take on ++ [((css ((cfl q).take (on + 1))).p : Rat) / (css ((cfl q).take (on + 1))).r]).length := by
        rw [ht, List.length_append] at hj; rw [List.length_append]; exact hj
      have h9 := hnums i hi hj'
      have e9 : ((cvs q).take (on + 1))[i] = ((cvs q).take on ++ [((css ((cfl q).take (on + 1))).p : Rat) / (css ((cfl q).take (on + 1))).r])[i]'hj' := by
        congr 1
        rw [ht, hget]
      rw [e9]; exact h9
  · obtain rfl : on = ws.length := by omega
    have ht : (cvs q).take ws.length = cvs q := List.take_of_length_le (by omega)
    refine hK _ _ _ us _ lhp (by omega) (by rw [hul, ht]; omega) ⟨p.slV4, by rw [hul, ht], ?_⟩
    intro i hi hj
    have := (nums i hi (by rw [ht]; exact hj)).mono p.le
    simpa [ht] using this
theorem equotients1_spec {l : List UInt8} (gl : Gl h) (hl : l.length ≤ 570) (hs : Sz m (rv l)) (hm1 : 1 ≤ m) (hm : m ≤ 280) (hK1 : ∀ q, l = txtQ q → ∀ A n c h', h.le h' → n = (cfl q).length → n ≤ 1000 → SlV h' A ((cfl q).map sv) → K (.tuple #[.slice A n c, I 0]) h') (hK0 : ¬ IsNum l → K (.tuple #[.slice none 0 0, I 1]) h) : FCall Tryz.prog f_EQuotients1 #[.string (bs l)] h K := by
  refine EQuotients1_ok _ ?_
  unfold EQuotients1
  refine valid_spec gl hl (fun e => ?_) (fun e => ⟨_, rfl, Br.not (hK0 e)⟩)
  obtain ⟨q, rfl⟩ := e
  rw [rv_txt] at hs
  refine ⟨_, rfl, Br.not (equotients_spec gl hs hm1 hm ?_)⟩
  intro A n c h' l1 hn hc hb s
  exact ⟨_, _, _, rfl, hK1 q rfl _ _ _ _ l1 hn hb s⟩
theorem econvergents1_spec {l : List UInt8} (gl : Gl h) (hl : l.length ≤ 570) (hs : Sz m (rv l)) (hm1 : 1 ≤ m) (hm : m ≤ 280) (hK1 : ∀ q, l = txtQ q → ∀ A n c h', h.le h' → n = (cvs q).length → n ≤ 1000 → SlV h' A ((cvs q).map qv) → K (.tuple #[.slice A n c, I 0]) h') (hK0 : ¬ IsNum l → K (.tuple #[.slice none 0 0, I 1]) h) : FCall Tryz.prog f_EConvergents #[.string (bs l)] h K := by
  by_cases hn : IsNum l
  · obtain ⟨q, rfl⟩ := hn
    rw [rv_txt] at hs
    refine econvergents_spec gl hs hm1 hm ?_
    intro A n c h' l1 hn hc hb s
    exact hK1 q rfl _ _ _ _ l1 hn hb s
  · refine EConvergents_ok _ ?_
    unfold EConvergents
    exact valid_spec gl hl (fun e => absurd e hn) (fun e => ⟨_, rfl, Br.not (hK0 e)⟩)
theorem cfl_zb (q : Rat) (hq : Sz m q) : ∀ a ∈ cfl q, ZB (m + 1) a := by
  intro a ha
  obtain ⟨k, hk, rfl⟩ := List.getElem_of_mem ha
  obtain ⟨x, hd, cv, hx1, _⟩ := cv_state q k hk
  obtain ⟨e1, _, _⟩ := cv_next q hk hd
  rw [e1]
  by_cases h0 : k = 0
  · subst h0
    have hh : (cfl q)[0] = q.floor := by obtain ⟨t, ht⟩ := cfl_head q; simp [ht]
    rw [← e1, hh]; exact (floor_zb hq).mono (by omega)
  · have hx := (hx1 (by omega))
    have hxb : x.num ≤ q.den := by
      have hr := cv.r0
      have h5 : 1 * x.num ≤ (css ((cfl q).take k)).r * x.num := Int.mul_le_mul_of_nonneg_right (by omega) (Int.le_of_lt (num_pos' (by grind)))
      have h6 : 0 ≤ (css ((cfl q).take k)).r' * x.den := Int.mul_nonneg hr.2.1 (by omega)
      rw [cv.dq]; omega
    have hx0 := num_pos' (show 0 < x by grind)
    rw [Rat.floor_def]
    refine ZB.mono (ZB.le (x := (q.den : Int)) hq.den ?_) (by omega)
    refine Nat.le_trans (Int.natAbs_ediv_le_natAbs _ _) ?_
    omega
theorem law_quotients {l : List UInt8} (gl : Gl h) : FCall Tryz.prog f_LNearestQuotients #[.string (bs l)] h (LawK h) := by
  refine LNearestQuotients_ok _ ?_
  unfold LNearestQuotients
  rw [bs_size]
  refine Br.dec (fun e => known_spec gl ⟨_, rfl, rfl, Heap.le_refl _⟩) (fun e => ?_)
  have sl : Sz 240 (rv l) := rv_sz (k := 60) (by omega) (by omega)
  refine equotients1_spec gl (by omega) sl (by decide) (by decide) ?_ ?_
  · intro q hlq QA Qn Qc h1 l1 hQn hQb sQ
    refine ⟨_, _, _, _, rfl, ?_⟩
    refine econvergents1_spec (gl.mono l1) (by omega) sl (by decide) (by decide) ?_ (fun hn => absurd ⟨q, hlq⟩ hn)
    intro q' hlq' CA Cn Cc h2 l2 hCn hCb sC
    have := txtQ_inj (hlq.symm.trans hlq')
    subst this
    have sq : Sz 240 q := by rw [hlq, rv_txt] at sl; exact sl
    refine ⟨_, _, _, _, rfl, read_spec (by omega) ?_ (fun hn => absurd ⟨q, hlq⟩ hn)⟩
    intro q2 hq2 w3 h3 l3 i3
    have := txtQ_inj (hlq.symm.trans hq2)
    subst this
    refine ⟨_, _, _, _, _, _, _, _, _, rfl, Br.of (fun e => by cases e) (fun _ => ?_)⟩
    refine fquotients_spec i3 sq (by decide) (by decide) ?_
    intro LA Ln Lc ws h4 l4 hLn hLb hws rL
    have l14 := Heap.le_trans l1 (Heap.le_trans l2 (Heap.le_trans l3 l4))
    refine ⟨_, _, _, rfl, known_spec (gl.mono l14) ⟨_, rfl, Br.of (fun _ => Br.beq (fun _ => Br.beq (fun _ => ?_) (fun e => absurd rfl e)) (fun e => absurd rfl e)) (fun e => by cases e)⟩⟩
    have hzq : ∀ r ∈ zq (cfl q), Sz 242 r := by
      intro r hr
      obtain ⟨a, ha, rfl⟩ := List.mem_map.1 hr
      exact Sz.int ((cfl_zb q sq a ha).mono (by omega)) (by omega)
    refine texts_spec (m := 242) rL hws.symm (by omega) hzq (by omega) ?_
    intro TA Tc h5 l5 sT
    refine ⟨_, _, _, rfl, sameStrings_spec (xs := (cfl q).map txtI) (ys := (zq (cfl q)).map txtQ) ?_ ?_ (by simp; omega) (by simp; omega) (by omega) ?_ ?_⟩
    · rw [List.map_map]; exact SlV.mono (Heap.le_trans l2 (Heap.le_trans l3 (Heap.le_trans l4 l5))) sQ
    · rw [List.map_map]; exact sT
    · intro _
      refine ⟨_, rfl, Br.of (fun _ => ?_) (fun e => by cases e)⟩
      refine fconvergents_spec (rL.mono l5) hws.symm sq (by decide) (by decide) (by omega) (cfl_zb q sq) ?_
      intro VA Vn Vc vs h6 l6 hVn hvs rV
      refine ⟨_, _, _, rfl, ?_⟩
      have hsz : ∀ r ∈ cvs q, Sz 242 r := by
        intro r hr
        obtain ⟨i, hi, rfl⟩ := List.getElem_of_mem hr
        obtain ⟨_, h1', h2'⟩ := cv_parts q (k := i) (by rw [cvs_length] at hi; exact hi)
        obtain ⟨z1, z2⟩ := cv_bounds q sq (k := i + 1) (by rw [cvs_length] at hi; omega)
        rw [cvs_get q hi]
        exact ⟨by rw [h1']; exact z1.mono (by omega), by rw [h2']; exact z2.mono (by omega)⟩
      refine texts_spec (m := 242) rV hvs.symm (by omega) hsz (by omega) ?_
      intro UA Uc h7 l7 sU
      refine ⟨_, _, _, rfl, sameStrings_spec (xs := (cvs q).map txtQ) (ys := (cvs q).map txtQ) ?_ ?_ (by simp; omega) (by simp; omega) (by omega) ?_ (fun e => e rfl)⟩
      · rw [List.map_map]; exact SlV.mono (Heap.le_trans l3 (Heap.le_trans l4 (Heap.le_trans l5 (Heap.le_trans l6 l7)))) sC
      · rw [List.map_map]; exact sU
      · intro _
        exact ⟨_, rfl, rfl, Heap.le_trans l14 (Heap.le_trans l5 (Heap.le_trans l6 l7))⟩
    · intro hne
      apply hne
      rw [List.map_map]
      apply List.map_congr_left
      intro a _
      exact txtI_eq a
  · intro hn
    refine ⟨_, _, _, _, rfl, econvergents1_spec gl (by omega) sl (by decide) (by decide) (fun q hq => absurd ⟨q, hq⟩ hn) (fun _ => ?_)⟩
    refine ⟨_, _, _, _, rfl, read_spec (by omega) (fun q hq => absurd ⟨q, hq⟩ hn) ?_⟩
    intro _ w3 h3 l3
    refine ⟨_, _, _, _, _, _, _, _, _, rfl, Br.of (fun _ => ?_) (fun e => by cases e)⟩
    refine known_spec (gl.mono l3) ⟨_, rfl, Br.of (fun _ => Br.beq (fun _ => Br.beq (fun _ => ⟨?_, l3⟩) (fun e => absurd rfl e)) (fun e => absurd rfl e)) (fun e => by cases e)⟩
    rfl
end
end Go.Proofs.YtgnclfejnndicaaGreatDoor
/-
  The tape; the law NearestLeast.
-/
namespace Go.Proofs.YtgnclfejnndicaaGreatDoor
open Go
set_option maxRecDepth 20000
def Tp (h g : Heap) (p : Option Addr) (xs : List Int) : Prop :=
  ∃ (b : Nat) (A : Option Addr) (c k : Nat), p = some ⟨b, 0, none⟩ ∧ g b = none ∧ h = g.put b (.cells #[.slice A xs.length c, I (k : Int)] 94) ∧ k ≤ xs.length ∧ xs.length ≤ 400 ∧ SlI .i64 g A xs
theorem Tp.le {h g : Heap} {p : Option Addr} {xs : List Int} (t : Tp h g p xs) : g.le h := by
  obtain ⟨b, A, c, k, _, hb, rfl, _⟩ := t
  exact Heap.le_put _ hb
theorem Tp.after {h g h' : Heap} {p : Option Addr} {xs : List Int} (t : Tp h g p xs) (l : h.le h') : ∃ g', g.le g' ∧ Tp h' g' p xs := by
  obtain ⟨b, A, c, k, hp, hb, rfl, hk, hl, s⟩ := t
  obtain ⟨g', l1, hb', rfl⟩ := Heap.after_put hb l
  exact ⟨g', l1, b, A, c, k, hp, hb', rfl, hk, hl, s.mono l1⟩
theorem Tp.call {P : Program} {f : FuncId} {args : Array Value} {h g : Heap} {p : Option Addr} {xs : List Int} (t : Tp h g p xs) {K : Value → Heap → Prop} (x : FCall P f args g (fun r h0 => g.le h0 ∧ ∀ h', h.le h' → Tp h' h0 p xs → K r h')) : FCall P f args h K := by
  obtain ⟨b, A, c, k, hp, hb, rfl, hk, hl, s⟩ := t
  refine FCall.frame hb x fun r h0 h0b hk2 => ?_
  obtain ⟨l0, hk3⟩ := hk2
  refine hk3 _ ?_ ⟨b, A, c, k, hp, h0b, rfl, hk, hl, s.mono l0⟩
  intro j o hj
  by_cases hjb : j = b
  · subst hjb; rw [Heap.put_same] at hj ⊢; exact hj
  · rw [Heap.put_other _ _ hjb] at hj ⊢; exact l0 j o hj
section
variable {h g : Heap} {K : Value → Heap → Prop} {A : Option Addr} {xs : List Int}
end
end Go.Proofs.YtgnclfejnndicaaGreatDoor
