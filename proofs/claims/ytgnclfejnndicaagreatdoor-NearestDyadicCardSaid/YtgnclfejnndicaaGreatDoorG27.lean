/-
  Texts of this proof, merged by a program of ours: NumO, NearQ.
-/
import Derived.Test.YtgnclfejnndicaaGreatDoorG19
import Derived.Test.YtgnclfejnndicaaGreatDoorG26
import Derived.Test.YtgnclfejnndicaaGreatDoorG24
import Derived.Test.YtgnclfejnndicaaGreatDoorG23
import Derived.Test.YtgnclfejnndicaaGreatDoorG25
/-
  Shift to the left.
-/
namespace Go.Proofs.YtgnclfejnndicaaGreatDoor
open Go
set_option maxRecDepth 20000
section
variable {h h' : Heap} {K : Value → Heap → Prop} {A B : Option Addr} {n c n' c' : Nat} {s s' : Bool} {x y z : Int} {m : Nat}
theorem pow_b32 (k : Nat) : b32 ^ k = (2 : Int) ^ (32 * k) := by
  rw [show b32 = (2 : Int) ^ 32 by decide, ← Int.pow_mul]
theorem nshift_spec {k : Nat} (i : NI h s A n c z) (hz : ZB m z) (hm : m ≤ 1000000000) (hk : k ≤ 1000000) (hK : ∀ s A n c h', h.le h' → NI h' s A n c (z * 2 ^ k) → K (.agg #[.bool s, .slice A n c]) h') : FCall Tryz.prog f_NShift #[.agg #[.bool s, .slice A n c], I (k : Int)] h K := by
  have hn := i.len hz hm
  refine NShift_ok _ _ _ _ _ ?_
  unfold NShift
  refine Br.dec (fun _ => ?_) (fun e => absurd (Int.natCast_nonneg k) e)
  have e1 : wi64 (Int.tdiv (k : Int) 32) = ((k / 32 : Nat) : Int) := by
    rw [Int.tdiv_eq_ediv_of_nonneg (by omega), wi64_id (by omega) (by omega)]; omega
  have e2 : wu64 (Int.tmod (k : Int) 32) = ((k % 32 : Nat) : Int) := by
    rw [Int.tmod_eq_emod_of_nonneg (by omega), wu64_id (by omega) (by omega)]; omega
  rw [e1, e2]
  refine blk_make tU32s (by omega) (by omega) (by omega) ?_
  intro b hb
  rw [Int.toNat_natCast]
  refine ⟨_, _, _, rfl, ?_⟩
  obtain ⟨xs, hxl, sx, dx, nx, hxv⟩ := i.mag
  have l1 := blk_le (k := .u32) (e := ty_tU32s_e) hb (List.replicate (k / 32) 0)
  have so := blk_sl .u32 ty_tU32s_e h b (List.replicate (k / 32) 0)
  subst hxl
  refine shiftLeft_spec (s := k % 32) (sx.mono l1) dx (by omega) (by omega) ?_
  intro b2 zs hb2 hzl dz hv
  have l2 := blk_le (k := .u32) (e := ty_tU32s_e) hb2 zs
  have sz := blk_sl .u32 ty_tU32s_e (blk .u32 ty_tU32s_e h b (List.replicate (k / 32) 0)) b2 zs
  refine ⟨_, _, _, rfl, l2, ?_⟩
  refine appendNew_ok (xs := (List.replicate (k / 32) 0).map (Value.int .u32)) (ys := zs.map (Value.int .u32)) tU32s (by simp) (SlV.cells (so.mono l2)) (by simp; omega) (SlV.cells sz) (by omega) (by omega) (by omega) ?_
  intro A3 c3 h3 p3
  refine ⟨_, _, _, rfl, p3.le, ?_⟩
  have hlen : (List.replicate (k / 32) 0 ++ zs).length = k / 32 + (xs.length + 1) := by simp; omega
  have s3 : SlI .u32 h3 A3 (List.replicate (k / 32) 0 ++ zs) := by
    have := p3.slV
    rw [← List.map_append] at this
    exact this
  have d3 : Dig b32 (List.replicate (k / 32) 0 ++ zs) := by
    intro d hd
    rcases List.mem_append.1 hd with h1 | h1
    · rw [List.eq_of_mem_replicate h1]; decide
    · exact dz d h1
  rw [← hlen]
  refine trim_mag s3 d3 (by rw [hlen]; exact p3.2.1) (by omega) ?_
  intro m2 hm2 M2
  refine ⟨_, _, _, rfl, Heap.le_refl _, ?_⟩
  refine make1_spec M2 (by have := p3.2.1; omega) ?_
  intro s4 i4
  refine ⟨_, _, _, _, rfl, Heap.le_refl _, hK _ _ _ _ _ (Heap.le_trans l1 (Heap.le_trans l2 p3.le)) ?_⟩
  have hval : val b32 (List.replicate (k / 32) 0 ++ zs) = (z.natAbs : Int) * 2 ^ k := by
    rw [val_append, val_zeros, List.length_replicate, hv, hxv, pow_b32]
    have : (2 : Int) ^ k = 2 ^ (32 * (k / 32)) * 2 ^ (k % 32) := by rw [← Int.pow_add]; congr 1; omega
    rw [this]; grind
  have hfin : z * 2 ^ k = if s = true then -((z.natAbs : Int) * 2 ^ k) else (z.natAbs : Int) * 2 ^ k := by
    have hs := i.sg
    by_cases h0 : z < 0
    · rw [hs, if_pos (by simpa using h0), ← Int.neg_mul, show -(z.natAbs : Int) = z by omega]
    · rw [hs, if_neg (by simpa using h0), show (z.natAbs : Int) = z by omega]
  rw [hfin, ← hval]
  exact i4
end
end Go.Proofs.YtgnclfejnndicaaGreatDoor
/-
  Dyadic: the program, the reference, the law.
-/
namespace Go.Proofs.YtgnclfejnndicaaGreatDoor
open Go
set_option maxRecDepth 20000
theorem txtI_q (z : Int) : txtI z = txtQ (z : Rat) := by rw [txtQ_int (Rat.den_intCast z), Rat.num_intCast]
theorem half_txt : txtQ (1 / 2) = [49, 47, 50] := by
  have h1 : (1 / 2 : Rat).num = 1 := by decide +kernel
  have h2 : (1 / 2 : Rat).den = 2 := by decide +kernel
  unfold txtQ
  rw [h1, h2]
  simp [txtI, digs, dd_pos, dd_zero, dch]
theorem two_txt : txtQ 2 = [50] := by
  have h1 : (2 : Rat).num = 2 := by decide
  have h2 : (2 : Rat).den = 1 := by decide
  unfold txtQ
  rw [h1, h2]
  simp [txtI, digs, dd_pos, dd_zero, dch]
theorem one_txt : txtQ 1 = [49] := by
  have h1 : (1 : Rat).num = 1 := by decide
  have h2 : (1 : Rat).den = 1 := by decide
  unfold txtQ
  rw [h1, h2]
  simp [txtI, digs, dd_pos, dd_zero, dch]
theorem two_sz : Sz 2 (2 : Rat) := ⟨by unfold ZB; decide, by unfold ZB; decide⟩
theorem half_sz : Sz 2 (1 / 2 : Rat) := ⟨by unfold ZB; decide +kernel, by unfold ZB; decide +kernel⟩
theorem rat_pow_add (q : Rat) (a b : Nat) : q ^ (a + b) = q ^ a * q ^ b := by
  induction b with
  | zero => rw [Nat.add_zero, Rat.pow_zero, Rat.mul_one]
  | succ b ih => rw [← Nat.add_assoc, Rat.pow_succ, Rat.pow_succ, ih, Rat.mul_assoc]
theorem nil_beq : ((bs []).toList == ({ data := #[] } : ByteArray).toList) = true := by rw [bs_nil_beq]; rfl
theorem one_sz : Sz 2 (1 : Rat) := ⟨by unfold ZB; decide, by unfold ZB; decide⟩
theorem two_pow_sz (k : Nat) : Sz (2 * k + 1) ((2 : Rat) ^ k) := two_sz.pow (by decide) k
theorem digs_last (n : Nat) : (digs n)[(digs n).length - 1]? = some (dch (n % 10)) := by
  by_cases h : n = 0
  · subst h; decide
  · rw [digs_pos h, dd_pos h]; simp
theorem txtI_last (z : Int) : (txtI z)[(txtI z).length - 1]? = some (dch (z.natAbs % 10)) := by
  have h0 := digs_ne z.natAbs
  have h1 : 0 < (digs z.natAbs).length := List.length_pos_iff.2 h0
  have h2 := digs_last z.natAbs
  unfold txtI
  split
  · rw [List.length_cons, Nat.add_sub_cancel]
    obtain ⟨k, hk⟩ : ∃ k, (digs z.natAbs).length = k + 1 := ⟨(digs z.natAbs).length - 1, by omega⟩
    rw [hk] at h2 ⊢
    rw [List.getElem?_cons_succ]
    simpa using h2
  · exact h2
theorem txtI_ne (z : Int) : 0 < (txtI z).length := by
  have h1 : 0 < (digs z.natAbs).length := List.length_pos_iff.2 (digs_ne z.natAbs)
  unfold txtI
  split
  · simp
  · exact h1
theorem band_dch : ∀ d, d < 10 → (band .u8 (((dch d).toNat : Nat) : Int) 1 == 1) = decide (d % 2 = 1) := by decide
def dy (v : Rat) : Int := if 1 < 2 * (v - v.floor) ∨ (2 * (v - v.floor) = 1 ∧ v.floor % 2 = 1) then v.floor + 1 else v.floor
theorem dy_prog (v : Rat) : dy v = if ((v + 1 / 2).floor : Rat) = v + 1 / 2 ∧ (v + 1 / 2).floor.natAbs % 10 % 2 = 1 then (v + 1 / 2).floor - 1 else (v + 1 / 2).floor := by
  obtain ⟨_, _, f1, f2⟩ := ceil_facts v
  obtain ⟨_, _, n1, n2⟩ := ceil_facts (v + 1 / 2)
  unfold dy
  generalize (v + 1 / 2).floor = n at *
  generalize v.floor = f at *
  have c1 : n ≤ f + 1 := by
    apply Int.not_lt.1
    intro hc
    have : ((f + 2 : Int) : Rat) ≤ (n : Rat) := Rat.intCast_le_intCast.2 (by omega)
    rw [Rat.intCast_add] at this
    grind
  have c2 : f ≤ n := by
    apply Int.not_lt.1
    intro hc
    have : ((n + 1 : Int) : Rat) ≤ (f : Rat) := Rat.intCast_le_intCast.2 (by omega)
    rw [Rat.intCast_add] at this
    grind
  have hc : n = f ∨ n = f + 1 := by omega
  rcases hc with rfl | rfl
  · have h1 : ¬ 1 ≤ 2 * (v - n) := by grind
    rw [if_neg (by rintro (h | ⟨h, _⟩) <;> grind), if_neg (by rintro ⟨h, _⟩; grind)]
  · rw [Rat.intCast_add] at n1 n2 ⊢
    have h1 : 1 ≤ 2 * (v - f) := by grind
    by_cases h2 : 2 * (v - f) = 1
    · have e : (f : Rat) + ((1 : Int) : Rat) = v + 1 / 2 := by grind
      by_cases h3 : f % 2 = 1
      · rw [if_pos (.inr ⟨h2, h3⟩), if_neg (by rintro ⟨_, h⟩; omega)]
      · rw [if_neg (by rintro (h | ⟨_, h⟩) <;> grind), if_pos ⟨e, by omega⟩]; omega
    · rw [if_pos (.inl (by grind)), if_neg (by rintro ⟨h, _⟩; grind)]
section
variable {h : Heap} {K : Value → Heap → Prop} {m : Nat} {q : List UInt8}
theorem epower2_spec : ∀ (k : Nat) {K : Value → Heap → Prop}, Gl h → k ≤ 8192 → K (.string (bs (txtQ (2 ^ k)))) h → FCall Tryz.prog f_EPower2 #[I (k : Int)] h K := by
  intro k
  induction k using Nat.strongRecOn with
  | _ k ih =>
    intro K gl hk hK
    refine EPower2_ok _ ?_
    unfold EPower2
    have t50 : rv [50] = 2 := by rw [← two_txt, rv_txt]
    refine Br.dec (fun h1 => ?_) (fun h1 => ?_)
    · refine tpow_spec (m := 2) (a := [50]) gl ⟨by simp, by rw [t50]; exact two_sz⟩ (by omega) (by omega) (by omega) ?_ ?_ ?_
      · intro _ _ _
        rw [t50, Int.natAbs_natCast]
        exact ⟨_, _, rfl, hK⟩
      · intro _ h2; omega
      · intro h2; omega
    · have e1 : wi64 (Int.tdiv (k : Int) 2) = ((k / 2 : Nat) : Int) := by
        rw [Int.tdiv_eq_ediv_of_nonneg (by omega), wi64_id (by omega) (by omega)]; omega
      have e2 : wi64 ((k : Int) - ((k / 2 : Nat) : Int)) = ((k - k / 2 : Nat) : Int) := by rw [wi64_id (by omega) (by omega)]; omega
      rw [e1, e2]
      refine ih (k / 2) (by omega) gl (by omega) ⟨_, rfl, ih (k - k / 2) (by omega) gl (by omega) ⟨_, rfl, ?_⟩⟩
      refine tmul_spec (m := 2 * k + 1) gl (Tx.of ((two_pow_sz _).mono (by omega)) (by omega)) (Tx.of ((two_pow_sz _).mono (by omega)) (by omega)) (by omega) ⟨_, rfl, ?_⟩
      rw [rv_txt, rv_txt, ← rat_pow_add, show k / 2 + (k - k / 2) = k by omega]
      exact hK
theorem edyadic_spec {bits : Int} (gl : Gl h) (hl : q.length ≤ 100) (hK0 : ¬ IsNum q → K (.tuple #[.string (bs []), I 1]) h) (hKr : IsNum q → ¬ (0 ≤ bits ∧ bits ≤ 4096) → K (.tuple #[.string (bs []), I 3]) h)
    (hK1 : IsNum q → ∀ k : Nat, bits = k → k ≤ 4096 → K (.tuple #[.string (bs (txtQ ((dy (rv q * 2 ^ k) : Rat) / 2 ^ k))), I 0]) h) : FCall Tryz.prog f_EDyadic #[.string (bs q), I bits] h K := by
  refine EDyadic_ok _ _ ?_
  unfold EDyadic
  refine valid_spec gl (by omega) (fun hn => ⟨_, rfl, Br.not ?_⟩) (fun hn => ⟨_, rfl, Br.not (hK0 hn)⟩)
  refine Br.dec (fun e => hKr hn (by omega)) (fun e1 => Br.dec (fun e => hKr hn (by omega)) (fun e2 => ?_))
  obtain ⟨k, rfl⟩ : ∃ k : Nat, bits = k := ⟨bits.toNat, by omega⟩
  have hK := hK1 hn k rfl (by omega)
  have sq : Sz 400 (rv q) := rv_sz (k := 100) hl (by omega)
  have hp0 : (2 : Rat) ^ k ≠ 0 := by
    intro e
    have := congrArg Rat.num e
    rw [Rat.num_pow] at this
    have h2 : (2 : Rat).num = 2 := by decide
    rw [h2] at this
    have h3 : (0 : Int) < 2 ^ k := Int.pow_pos (by decide)
    exact absurd this (Int.ne_of_gt h3)
  refine epower2_spec k gl (by omega) ⟨_, rfl, ?_⟩
  have s2 := (two_pow_sz k).mono (show 2 * k + 1 ≤ 10000 by omega)
  have sv := (sq.mul (two_pow_sz k)).mono (show 400 + (2 * k + 1) ≤ 10000 by omega)
  refine tmul_spec (m := 10000) gl ⟨by omega, sq.mono (by omega)⟩ (Tx.of s2 (by omega)) (by omega) ⟨_, rfl, ?_⟩
  rw [rv_txt]
  have t12 : rv [49, 47, 50] = 1 / 2 := by rw [← half_txt, rv_txt]
  have t1 : rv [49] = 1 := by rw [← one_txt, rv_txt]
  refine tadd_spec (m := 10000) (b := [49, 47, 50]) gl (Tx.of sv (by omega)) ⟨by simp, by rw [t12]; exact half_sz.mono (by omega)⟩ (by omega) ⟨_, rfl, ?_⟩
  rw [rv_txt, t12]
  have su := (sv.add half_sz).mono (show 10000 + 2 + 1 ≤ 20000 by omega)
  rw [dy_prog] at hK
  generalize rv q * 2 ^ k = v at *
  refine tfloor_spec (m := 20000) gl (Tx.of su (by omega)) (by omega) ⟨_, rfl, ?_⟩
  rw [rv_txt, bs_beq]
  have sn := Sz.int (floor_zb su) (by omega)
  generalize hn : (v + 1 / 2).floor = n at *
  have fin : ∀ {z : Int}, Sz 30000 (z : Rat) → K (.tuple #[.string (bs (txtQ ((z : Rat) / 2 ^ k))), I 0]) h → FCall Tryz.prog f_TDiv #[.string (bs (txtQ (z : Rat))), .string (bs (txtQ (2 ^ k)))] h (fun r hp => ∃ (ta : ByteArray) (tb : Bool), r = .tuple #[.string ta, .bool tb] ∧ K (.tuple #[.string ta, I 0]) hp) := by
    intro z sz hz
    refine tdiv_spec (m := 30000) gl (Tx.of sz (by omega)) (Tx.of (s2.mono (by omega)) (by omega)) (by omega) (by omega) ?_ ?_
    · intro _
      rw [rv_txt, rv_txt]
      exact ⟨_, _, rfl, hz⟩
    · intro e
      rw [rv_txt] at e
      exact absurd e hp0
  have hlen := txtI_ne n
  refine Br.dec (fun e => ?_) (fun e => ?_)
  · have etie : (n : Rat) = v + 1 / 2 := by
      rw [txtI_q] at e
      exact txtQ_inj e
    have hsmall := txtQ_len su
    rw [← e] at hsmall
    have el : wi64 (((bs (txtI n)).size : Int) - 1) = (((txtI n).length - 1 : Nat) : Int) := by rw [bs_size, wi64_id (by omega) (by omega)]; omega
    rw [el, Int.toNat_natCast, bs_get, txtI_last]
    refine ⟨_, ⟨by omega, rfl⟩, ?_⟩
    rw [band_dch _ (Nat.mod_lt _ (by decide)), txtI_q]
    refine Br.dec (fun hodd => ?_) (fun hodd => ?_)
    · rw [if_pos ⟨etie, hodd⟩] at hK
      refine tsub_spec (m := 20000) (b := [49]) gl (Tx.of sn (by omega)) ⟨by simp, by rw [t1]; exact one_sz.mono (by omega)⟩ (by omega) ⟨_, rfl, ?_⟩
      rw [rv_txt, t1]
      have en : (n : Rat) - 1 = ((n - 1 : Int) : Rat) := by rw [Rat.intCast_sub]; rfl
      rw [en]
      refine fin ?_ hK
      rw [← en]
      exact (sn.sub one_sz).mono (by omega)
    · rw [if_neg (by rintro ⟨_, h⟩; exact hodd h)] at hK
      exact fin (sn.mono (by omega)) hK
  · rw [if_neg (by rintro ⟨h, _⟩; exact e (by rw [txtI_q, h]))] at hK
    rw [txtI_q]
    exact fin (sn.mono (by omega)) hK
theorem Mg.odd {A : Option Addr} {n : Nat} {z : Int} (M : Mg h A n z) (hn : n ≠ 0) : ∃ a d, A = some a ∧ h.cell? (a.add 0) = some (U32 d) ∧ (0 ≤ d ∧ d < 4294967296) ∧ d % 2 = z % 2 := by
  obtain ⟨xs, hxl, sx, dx, nx, hxv⟩ := M
  rcases xs with _ | ⟨d, r⟩
  · simp at hxl; omega
  · obtain ⟨a, ha, hc⟩ := SlV.at sx (i := 0) (by simp)
    refine ⟨a, d, ha, by simpa using hc, dx d (by simp), ?_⟩
    rw [← hxv]
    simp only [val]
    show d % 2 = (d + 4294967296 * val b32 r) % 2
    omega
theorem band32 {x : Int} (hx : 0 ≤ x ∧ x < 4294967296) : band .u32 x 1 = x % 2 := by
  have hk : IntKind.u32.bits = 32 := rfl
  have hle : x.toNat &&& (1 : Int).toNat ≤ x.toNat := Nat.and_le_left
  have h1 : x.toNat &&& (1 : Int).toNat = x.toNat % 2 := Nat.and_one_is_mod _
  unfold band
  rw [hk, BitVec.toNat_and, ofInt_toNat hx.1 hx.2, ofInt_toNat (by omega) (by decide)]
  have := wu32_id (n := ((x.toNat &&& (1 : Int).toNat : Nat) : Int)) (by omega) (by omega)
  unfold wu32 at this
  rw [this, h1]; omega
theorem sgn_q (q : Rat) : (0 < q.num.sign ↔ 0 < q) ∧ (q.num.sign = 0 ↔ q = 0) := by
  constructor
  · rw [Rat.lt_iff]; simp [Int.sign_pos_iff]
  · rw [Int.sign_eq_zero_iff_zero, Rat.num_eq_zero]
theorem fdyadic_spec {w : QV} {p : Rat} {k : Nat} (i : NQ h w p) (hp : Sz 400 p) (hk : k ≤ 4096) (hK : ∀ w h', h.le h' → NQ h' w ((dy (p * 2 ^ k) : Rat) / 2 ^ k) → K w.v h') : FCall Tryz.prog f_FDyadic #[w.v, I (k : Int)] h K := by
  refine FDyadic_ok _ _ _ _ _ _ _ _ _ ?_
  unfold FDyadic
  refine fromInt_spec (by omega) ?_
  intro s1 A1 n1 c1 h1 l1 i1
  refine ⟨_, _, _, _, rfl, ?_⟩
  refine nshift_spec (m := 2) i1 (by unfold ZB; decide) (by omega) (by omega) ?_
  intro s2 A2 n2 c2 h2 l2 i2
  refine ⟨_, _, _, _, rfl, ?_⟩
  rw [Int.one_mul] at i2
  have l12 := Heap.le_trans l1 l2
  have hz2 : ZB 10000 ((2 : Int) ^ k) := by
    have := (show ZB 2 (2 : Int) by unfold ZB; decide).pow (by decide) k
    exact this.mono (by omega)
  have e2 : (((2 : Int) ^ k : Int) : Rat) = (2 : Rat) ^ k := by rw [Rat.intCast_pow]; rfl
  have hne : (2 : Int) ^ k ≠ 0 := Int.ne_of_gt (Int.pow_pos (by decide))
  have s2' := (two_pow_sz k).mono (show 2 * k + 1 ≤ 10000 by omega)
  refine rmul_spec (m := 10000) (b := ⟨s2, A2, n2, c2, false, none, 0, 0⟩) (i.mono l12) (NQ.whole i2) (hp.mono (by omega)) (by rw [e2]; exact s2') (by omega) ?_
  intro w3 h3 l3 i3
  refine ⟨_, _, _, _, _, _, _, _, rfl, ?_⟩
  rw [e2] at i3
  have sv := (hp.mul (two_pow_sz k)).mono (show 400 + (2 * k + 1) ≤ 10000 by omega)
  unfold dy at hK
  generalize p * 2 ^ k = v at *
  refine floor_spec (m := 10000) i3 sv (by omega) (by omega) ?_
  intro s4 A4 n4 c4 h4 l4 i4
  refine ⟨_, _, _, _, rfl, ?_⟩
  have zf : ZB 10000 v.floor := floor_zb sv
  generalize v.floor = f at *
  refine r_spec (by omega) ?_
  intro w5 h5 l5 i5
  refine ⟨_, _, _, _, _, _, _, _, rfl, l5, ?_⟩
  have sf : Sz 10000 (f : Rat) := Sz.int zf (by omega)
  refine rsub_spec (m := 10000) (b := ⟨s4, A4, n4, c4, false, none, 0, 0⟩) (i3.mono (Heap.le_trans l4 l5)) ((NQ.whole i4).mono l5) sv sf (by omega) ?_
  intro w6 h6 l6 i6
  refine ⟨_, _, _, _, _, _, _, _, rfl, l6, ?_⟩
  have s6 := (sv.sub sf).mono (show 10000 + 10000 + 1 ≤ 30000 by omega)
  refine rmul_spec (m := 30000) (i5.mono l6) i6 (two_sz.mono (by omega)) s6 (by omega) ?_
  intro w7 h7 l7 i7
  refine ⟨_, _, _, _, _, _, _, _, rfl, l7, ?_⟩
  have s7 := (two_sz.mul s6).mono (show 2 + 30000 ≤ 40000 by omega)
  refine fone_spec ?_
  intro w8 h8 l8 i8
  refine ⟨_, _, _, _, _, _, _, _, rfl, l8, ?_⟩
  refine rcmp_spec (m := 40000) (i7.mono l8) i8 s7 (one_sz.mono (by omega)) (by omega) ⟨_, rfl, Heap.le_refl _, ?_⟩
  have l48 := Heap.le_trans l5 (Heap.le_trans l6 (Heap.le_trans l7 l8))
  have l08 := Heap.le_trans l12 (Heap.le_trans l3 (Heap.le_trans l4 l48))
  have l28 := Heap.le_trans l3 (Heap.le_trans l4 l48)
  have ei5 : (((2 : Int) : Int) : Rat) = (2 : Rat) := rfl
  rw [ei5]
  obtain ⟨g1, g2⟩ := sgn_q (2 * (v - (f : Rat)) - 1)
  have zf' : ZB 10001 f := zf.mono (by omega)
  have fin : ∀ {hp : Heap} {s A n c} {z : Int}, h8.le hp → NI hp s A n c z → ZB 10001 z → (∀ w h', h.le h' → NQ h' w ((z : Rat) / 2 ^ k) → K w.v h') → FCall Tryz.prog f_NFrac #[.agg #[.bool s, .slice A n c], .agg #[.bool s2, .slice A2 n2 c2]] hp (fun r hp1 => ∃ (x0 : Bool) (x1A : Option Addr) (x1n x1c : Nat) (x2 : Bool) (x3A : Option Addr) (x3n x3c : Nat), r = .agg #[.bool x0, .slice x1A x1n x1c, .bool x2, .slice x3A x3n x3c] ∧ K (.agg #[.bool x0, .slice x1A x1n x1c, .bool x2, .slice x3A x3n x3c]) hp1) := by
    intro hp s A n c z lh iz zz hK
    refine frac_spec (m := 10001) iz (i2.mono (Heap.le_trans l28 lh)) hne zz (hz2.mono (by omega)) (by omega) ?_
    intro w9 h9 l9 i9
    rw [Rat.divInt_eq_div, e2] at i9
    exact ⟨_, _, _, _, _, _, _, _, rfl, hK w9 _ (Heap.le_trans l08 (Heap.le_trans lh l9)) i9⟩
  have up : (∀ w h', h.le h' → NQ h' w (((f + 1 : Int) : Rat) / 2 ^ k) → K w.v h') → FCall Tryz.prog f_NFromInt #[I (1 : Int)] h8 (fun r9 hp9 => ∃ (t470 : Bool) (t471A : Option Addr) (t471n : Nat) (t471c : Nat), r9 = .agg #[.bool t470, .slice t471A t471n t471c] ∧ Heap.le h8 hp9 ∧ FCall Tryz.prog f_NAdd #[.agg #[.bool s4, .slice A4 n4 c4], .agg #[.bool t470, .slice t471A t471n t471c]] hp9 (fun r10 hp10 => ∃ (t480 : Bool) (t481A : Option Addr) (t481n : Nat) (t481c : Nat), r10 = .agg #[.bool t480, .slice t481A t481n t481c] ∧ Heap.le hp9 hp10 ∧ FCall Tryz.prog f_NFrac #[.agg #[.bool t480, .slice t481A t481n t481c], .agg #[.bool s2, .slice A2 n2 c2]] hp10 (fun r11 hp11 => ∃ (x0 : Bool) (x1A : Option Addr) (x1n : Nat) (x1c : Nat) (x2 : Bool) (x3A : Option Addr) (x3n : Nat) (x3c : Nat), r11 = .agg #[.bool x0, .slice x1A x1n x1c, .bool x2, .slice x3A x3n x3c] ∧ K (.agg #[.bool x0, .slice x1A x1n x1c, .bool x2, .slice x3A x3n x3c]) hp11))) := by
    intro hK
    refine fromInt_spec (by omega) ?_
    intro s9 A9 n9 c9 h9 l9 i9
    refine ⟨_, _, _, _, rfl, l9, ?_⟩
    refine add_spec (m := 10000) (i4.mono (Heap.le_trans l48 l9)) i9 zf (ZB.one (by omega)) (by omega) ?_
    intro s10 A10 n10 c10 h10 l10 i10
    refine ⟨_, _, _, _, rfl, l10, ?_⟩
    exact fin (Heap.le_trans l9 l10) i10 (zf.add (ZB.one (by omega))) hK
  have i4' := i4.mono l48
  refine Br.dec (fun hgt => ?_) (fun hgt => ?_)
  · rw [if_pos (.inl (by have := g1.1 hgt; grind))] at hK
    exact up hK
  · have hgt' : ¬ 1 < 2 * (v - (f : Rat)) := fun e => hgt (g1.2 (by grind))
    refine Br.beq (fun heq => ?_) (fun heq => ?_)
    · have heq' : 2 * (v - (f : Rat)) = 1 := by have := g2.1 heq; grind
      refine Br.dec (fun hlen => ?_) (fun hlen => ?_)
      · obtain ⟨a, d, ha, hc, hd, hpar⟩ := i4'.mag.odd (by omega)
        refine ⟨a, ha, by omega, by omega, d, by simpa using hc, ?_⟩
        rw [band32 hd]
        refine Br.beq (fun ho => ?_) (fun ho => ?_)
        · rw [if_pos (.inr ⟨heq', by omega⟩)] at hK
          exact up hK
        · rw [if_neg (by rintro (h | ⟨_, h⟩); exact hgt' h; omega)] at hK
          exact fin (Heap.le_refl _) i4' zf' hK
      · have hf0 : f = 0 := i4'.zero_iff.1 (by omega)
        rw [if_neg (by rintro (h | ⟨_, h⟩); exact hgt' h; omega)] at hK
        exact fin (Heap.le_refl _) i4' zf' hK
    · rw [if_neg (by rintro (h | ⟨h, _⟩); exact hgt' h; exact heq (g2.2 (by grind)))] at hK
      exact fin (Heap.le_refl _) i4' zf' hK
theorem law_dyadic {bits : Int} (gl : Gl h) (_ : -9223372036854775808 ≤ bits ∧ bits ≤ 9223372036854775807) : FCall Tryz.prog f_LNearestDyadic #[.string (bs q), I bits] h (LawK h) := by
  refine LNearestDyadic_ok _ _ ?_
  unfold LNearestDyadic
  rw [bs_size]
  refine Br.dec (fun _ => known_spec gl ⟨_, rfl, rfl, Heap.le_refl _⟩) (fun hl => ?_)
  refine edyadic_spec gl (by omega) ?_ ?_ ?_
  · intro hn
    refine ⟨_, _, rfl, read_spec (by omega) ?_ ?_⟩
    · intro p e; exact absurd ⟨p, e⟩ hn
    · intro _ w h1 l1
      refine ⟨_, _, _, _, _, _, _, _, _, rfl, Br.not ?_⟩
      exact known_spec (gl.mono l1) ⟨_, rfl, Br.of (fun _ => Br.beq (fun _ => ⟨by rw [nil_beq], l1⟩) (fun e => absurd rfl e)) (fun e => by cases e)⟩
  · intro hn hb
    refine ⟨_, _, rfl, read_spec (by omega) ?_ ?_⟩
    · intro p e w h1 l1 i1
      refine ⟨_, _, _, _, _, _, _, _, _, rfl, Br.not ?_⟩
      refine Br.dec (fun _ => ?_) (fun h0 => Br.dec (fun _ => ?_) (fun h2 => absurd ⟨by omega, by omega⟩ hb))
      · exact known_spec (gl.mono l1) ⟨_, rfl, Br.of (fun _ => Br.beq (fun _ => ⟨by rw [nil_beq], l1⟩) (fun e => absurd rfl e)) (fun e => by cases e)⟩
      · exact known_spec (gl.mono l1) ⟨_, rfl, Br.of (fun _ => Br.beq (fun _ => ⟨by rw [nil_beq], l1⟩) (fun e => absurd rfl e)) (fun e => by cases e)⟩
    · intro hn'; exact absurd hn hn'
  · rintro hn k rfl hk
    refine ⟨_, _, rfl, read_spec (by omega) ?_ ?_⟩
    · intro p e w h1 l1 i1
      refine ⟨_, _, _, _, _, _, _, _, _, rfl, Br.not ?_⟩
      refine Br.dec (fun e => by omega) (fun _ => ?_)
      refine known_spec (gl.mono l1) ⟨_, rfl, Br.of (fun _ => Br.beq (fun _ => ?_) (fun e => absurd rfl e)) (fun e => by cases e)⟩
      have sq : Sz 400 (rv q) := rv_sz (k := 100) (by omega) (by omega)
      have ep : rv q = p := by rw [e, rv_txt]
      rw [ep] at sq ⊢
      refine fdyadic_spec i1 sq hk ?_
      intro w2 h2 l2 i2
      refine ⟨_, _, _, _, _, _, _, _, rfl, ?_⟩
      have hfl : Sz 30000 ((dy (p * 2 ^ k) : Rat) / 2 ^ k) := by
        have sv := (sq.mul (two_pow_sz k)).mono (show 400 + (2 * k + 1) ≤ 10000 by omega)
        have zd : ZB 10001 (dy (p * 2 ^ k)) := by
          unfold dy
          split
          · exact (floor_zb sv).add (ZB.one (by omega))
          · exact (floor_zb sv).mono (by omega)
        exact ((Sz.int zd (by omega)).div (two_pow_sz k) (by omega)).mono (by omega)
      refine text_spec i2 hfl (by omega) ⟨_, rfl, ?_, Heap.le_trans l1 l2⟩
      rw [bs_beq]; simp
    · intro hn'; exact absurd hn hn'
end
end Go.Proofs.YtgnclfejnndicaaGreatDoor
