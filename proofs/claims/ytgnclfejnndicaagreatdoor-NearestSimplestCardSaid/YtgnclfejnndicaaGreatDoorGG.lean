/-
  Texts of this proof, merged by a program of ours: NumB, NumC, NumD, NumE, NumF, NumG, IntP, NumH, NumI, NumJ, NumK, NumL, DecA, DecB, NumM.
-/
import Derived.Test.YtgnclfejnndicaaGreatDoorGE
import Derived.Test.YtgnclfejnndicaaGreatDoorGF
import Derived.Test.YtgnclfejnndicaaGreatDoorXBits
import Derived.Test.YtgnclfejnndicaaGreatDoorXOwn
import Derived.Test.YtgnclfejnndicaaGreatDoorXLib2
import Derived.Test.YtgnclfejnndicaaGreatDoorXStr
/-
  Magnitudes in memory; trim, cmpMag, addMag, subMag.
-/
namespace Go.Proofs.YtgnclfejnndicaaGreatDoor
open Go

/-- a block of numbers that the call has made, beside g -/
def blk (k : IntKind) (e : TypeId) (g : Heap) (b : Nat) (zs : List Int) : Heap := g.put b (.cells (zs.map (Value.int k)).toArray e)
theorem blk_le {k : IntKind} {e : TypeId} {g : Heap} {b : Nat} (hb : g b = none) (zs : List Int) : g.le (blk k e g b zs) := Heap.le_put _ hb
theorem blk_sl (k : IntKind) (e : TypeId) (g : Heap) (b : Nat) (zs : List Int) : SlI k (blk k e g b zs) (some ⟨b, 0, none⟩) zs := SlI.new g b zs e _
theorem blk_make {P : Program} {k : IntKind} {t e : TypeId} {bytes : Nat} (s : SliceT P t e (.int k 0) 1 bytes) {n : Int} (h0 : 0 ≤ n) (h2 : n * bytes ≤ 281474976710656) (h3 : n ≤ 9223372036854775807) {K : Value → Heap → Prop} {h : Heap}
    (x : ∀ b, h b = none → K (.slice (some ⟨b, 0, none⟩) n.toNat n.toNat) (blk k e h b (List.replicate n.toNat 0))) : wpH P (Instr.makeSlice t (I n) (I n)) K h := by
  refine make_ok s h0 (Int.le_refl n) h2 h3 ?_
  intro b hb
  have := x b hb
  unfold blk at this
  rw [List.map_replicate] at this
  rw [show (Value.int k 0).cells = #[.int k 0] from rfl, repCells_one]
  exact this
theorem blk_store {P : Program} {t : TypeId} (one : P.cellsOf t = 1 ∧ (P.info? t).isSome = true) {k : IntKind} {n i : Int} {g : Heap} {b : Nat} {e : TypeId} {zs : List Int} (hi : i.toNat < zs.length) {K : Unit → Heap → Prop}
    (x : K () (blk k e g b (zs.set i.toNat n))) : wpH P (Instr.storeAt t (.pointer (some (Addr.add ⟨b, 0, none⟩ (i.toNat * 1)))) (.int k n)) K (blk k e g b zs) := by
  refine storeI_ok one (by simpa using hi) ?_
  unfold blk at x
  rw [List.map_set] at x
  simpa using x

/-- a natural number in a slice of digits, without zeros at its end -/
def Mag (k : IntKind) (B : Int) (h : Heap) (A : Option Addr) (len : Nat) (n : Int) : Prop := ∃ xs : List Int, len = xs.length ∧ SlI k h A xs ∧ Dig B xs ∧ Norm xs ∧ val B xs = n
theorem Mag.mono {k : IntKind} {B : Int} {h h' : Heap} (hl : h.le h') {A : Option Addr} {len : Nat} {n : Int} (m : Mag k B h A len n) : Mag k B h' A len n := by
  obtain ⟨xs, h1, h2, h3⟩ := m; exact ⟨xs, h1, h2.mono hl, h3⟩
theorem Mag.zero {k : IntKind} {B : Int} {h : Heap} {A : Option Addr} : Mag k B h A 0 0 := ⟨[], rfl, SlI.nil, Dig.nil, Norm.nil, rfl⟩
theorem Mag.nonneg {k : IntKind} {B : Int} (hB : 0 < B) {h : Heap} {A : Option Addr} {len : Nat} {n : Int} (m : Mag k B h A len n) : 0 ≤ n := by
  obtain ⟨xs, _, _, h3, _, rfl⟩ := m; exact val_nonneg hB h3
theorem Mag.len_zero {k : IntKind} {B : Int} (hB : 0 < B) {h : Heap} {A : Option Addr} {len : Nat} {n : Int} (m : Mag k B h A len n) : n = 0 ↔ len = 0 := by
  obtain ⟨xs, rfl, _, h3, h4, rfl⟩ := m; exact val_eq_zero hB h3 h4
theorem Mag.lt {k : IntKind} {B : Int} (hB : 0 < B) {h : Heap} {A : Option Addr} {len : Nat} {n : Int} (m : Mag k B h A len n) : n < B ^ len := by
  obtain ⟨xs, rfl, _, h3, _, rfl⟩ := m; exact val_lt hB h3
theorem Mag.ge {k : IntKind} {B : Int} (hB : 0 < B) {h : Heap} {A : Option Addr} {len : Nat} {n : Int} (m : Mag k B h A len n) (hl : len ≠ 0) : B ^ (len - 1) ≤ n := by
  obtain ⟨xs, rfl, _, h3, h4, rfl⟩ := m; exact val_ge hB h3 h4 hl
/-- what a number below a power has of digits -/
theorem Mag.len_le {k : IntKind} {B : Int} (hB : 1 < B) {h : Heap} {A : Option Addr} {len : Nat} {n : Int} (m : Mag k B h A len n) {j : Nat} (hn : n < B ^ j) : len ≤ j := by
  by_cases hl : len = 0
  · omega
  · have h1 := m.ge (by omega) hl
    by_cases hj : len ≤ j
    · exact hj
    · have := pow_le_pow' (B := B) (by omega) (show j ≤ len - 1 by omega)
      omega

abbrev b32 : Int := 4294967296
abbrev Mg (h : Heap) (A : Option Addr) (len : Nat) (n : Int) : Prop := Mag .u32 b32 h A len n
section
variable {h g : Heap} {K : Value → Heap → Prop} {A B : Option Addr} {ac bc : Nat}

theorem trim_spec {xs : List Int} (s : SlI .u32 h A xs) (hc : xs.length ≤ ac) (hl : xs.length ≤ 1000000000) (hK : ∀ m, m ≤ xs.length → Norm (xs.take m) → val b32 (xs.take m) = val b32 xs → K (.slice A m ac) h) : FCall Tryz.prog f_NTrim #[.slice A xs.length ac] h K := by
  refine NTrim_ok _ _ _ ?_
  unfold NTrim
  refine ⟨fun l h' => ∃ m : Nat, l = [.slice A m ac] ∧ m ≤ xs.length ∧ h' = h ∧ val b32 (xs.take m) = val b32 xs, fun l _ => match l with | [.slice _ m _] => m | _ => 0, ⟨xs.length, rfl, Nat.le_refl _, rfl, by rw [List.take_length]⟩, ?_⟩
  rintro A1 n1 c1 hp ⟨m, hl1, hm, rfl, hv⟩
  obtain ⟨rfl, rfl, rfl⟩ : A1 = A ∧ n1 = m ∧ c1 = ac := by simpa using hl1
  refine Br.dec (fun h1 => ?_) (fun h1 => ?_)
  · obtain ⟨j, rfl⟩ : ∃ j, n1 = j + 1 := ⟨n1 - 1, by omega⟩
    have e : wi64 (((j + 1 : Nat) : Int) - 1) = (j : Int) := by rw [wi64_id (by omega) (by omega)]; omega
    rw [e]
    obtain ⟨a, ha, hc1⟩ := SlV.at s (i := j) (by simp; omega)
    have hv1 := val_take_succ b32 (xs := xs) (i := j) (by omega)
    refine ⟨a, ha, by omega, by omega, xs.getD j 0, by rw [Int.toNat_natCast, Nat.mul_one, hc1]; simp [List.getD, show j < xs.length by omega], ?_⟩
    refine Br.beq (fun h2 => ?_) (fun h2 => ?_)
    · refine ⟨⟨by omega, by omega⟩, ⟨j, ?_, by omega, rfl, ?_⟩, ?_⟩
      · simp [cutA_zero]
      · rw [h2] at hv1; omega
      · simp
    · refine hK (j + 1) hm ?_ hv
      rw [take_getD (by omega)]; exact norm_snoc h2
  · have : n1 = 0 := by omega
    subst this
    exact hK 0 (by omega) Norm.nil hv
theorem trim_mag {xs : List Int} (s : SlI .u32 h A xs) (hd : Dig b32 xs) (hc : xs.length ≤ ac) (hl : xs.length ≤ 1000000000) (hK : ∀ m, m ≤ xs.length → Mg h A m (val b32 xs) → K (.slice A m ac) h) : FCall Tryz.prog f_NTrim #[.slice A xs.length ac] h K := by
  refine trim_spec s hc hl ?_
  intro m hm hn hv
  refine hK m hm ⟨xs.take m, by simp; omega, ?_, hd.take m, hn, hv⟩
  have := s.cut (c := ac) (l := 0) (m := m) (by omega) hm hc
  simpa [cutA_zero] using this

theorem cmpMag_spec {x y : Int} {an bn : Nat} (ma : Mg h A an x) (mb : Mg h B bn y) (hl : an ≤ 1000000000) (hK : K (I (if x < y then -1 else if x > y then 1 else 0)) h) : FCall Tryz.prog f_NCmpMag #[.slice A an ac, .slice B bn bc] h K := by
  obtain ⟨xs, rfl, sx, dx, nx, rfl⟩ := ma
  obtain ⟨ys, rfl, sy, dy, ny, rfl⟩ := mb
  refine NCmpMag_ok _ _ _ _ _ _ ?_
  unfold NCmpMag
  refine Br.bne (fun h1 => Br.dec (fun h2 => ?_) (fun h2 => ?_)) (fun h1 => ?_)
  · have := val_len_lt (by decide) dx dy ny (by omega)
    rw [if_pos this] at hK; exact hK
  · have := val_len_lt (by decide) dy dx nx (by omega)
    rw [if_neg (by omega), if_pos (by omega)] at hK; exact hK
  · have hlen : xs.length = ys.length := by omega
    refine ⟨fun l h' => ∃ k : Nat, l = [I ((k : Int) - 1)] ∧ k ≤ xs.length ∧ h' = h ∧ xs.drop k = ys.drop k, fun l _ => (iAt l 0 + 1).toNat, ⟨xs.length, ?_, Nat.le_refl _, rfl, ?_⟩, ?_⟩
    · rw [wi64_id (by omega) (by omega)]
    · rw [List.drop_length, hlen, List.drop_length]
    rintro i hp ⟨k, hl1, hk, rfl, hd⟩
    obtain rfl : i = (k : Int) - 1 := by simpa using hl1
    refine Br.dec (fun h2 => ?_) (fun h2 => ?_)
    · obtain ⟨j, rfl⟩ : ∃ j, k = j + 1 := ⟨k - 1, by omega⟩
      have e : ((j + 1 : Nat) : Int) - 1 = (j : Int) := by omega
      rw [e]
      refine sx.load rfl (by omega) (by omega) ?_
      refine sy.load rfl (by omega) (by omega) ?_
      rw [Int.toNat_natCast]
      refine Br.bne (fun h3 => ?_) (fun h3 => ?_)
      · refine sx.load rfl (by omega) (by omega) ?_
        refine sy.load rfl (by omega) (by omega) ?_
        rw [Int.toNat_natCast]
        refine Br.dec (fun h4 => ?_) (fun h4 => ?_)
        · have := val_top_lt (by decide) dx dy (i := j) (by omega) (by omega) hd h4
          rw [if_pos this] at hK; exact hK
        · have := val_top_lt (by decide) dy dx (i := j) (by omega) (by omega) hd.symm (by omega)
          rw [if_neg (by omega), if_pos (by omega)] at hK; exact hK
      · rw [wi64_id (by omega) (by omega)]
        refine ⟨⟨j, rfl, by omega, rfl, ?_⟩, by simp only [iAt, List.getElem?_cons_zero]; omega⟩
        rw [List.drop_eq_getElem_cons (show j < xs.length by omega), List.drop_eq_getElem_cons (show j < ys.length by omega), hd]
        congr 1
        simpa [List.getD, show j < xs.length by omega, show j < ys.length by omega] using h3
    · have hk0 : k = 0 := by omega
      subst hk0
      simp at hd
      subst hd
      rw [if_neg (by omega), if_neg (by omega)] at hK; exact hK
end
end Go.Proofs.YtgnclfejnndicaaGreatDoor
/-
  addMag, subMag, mulMag, smallDiv.
-/
namespace Go.Proofs.YtgnclfejnndicaaGreatDoor
open Go
set_option maxRecDepth 20000

theorem val_take_succ' (B : Int) (xs : List Int) (i : Nat) : val B (xs.take (i + 1)) = val B (xs.take i) + B ^ i * xs.getD i 0 := by
  by_cases hi : i < xs.length
  · exact val_take_succ B hi
  · rw [List.take_of_length_le (by omega), List.take_of_length_le (by omega)]
    simp [List.getD, List.getElem?_eq_none (Nat.le_of_not_lt hi)]
theorem shr32 {c : Int} : Int.fdiv c (2 ^ (min ((32 : Int)).toNat 64)) = c / 4294967296 := by
  rw [show (2 : Int) ^ (min ((32 : Int)).toNat 64) = 4294967296 by decide]; exact Int.fdiv_eq_ediv_of_nonneg c (by decide)
theorem dig32 {xs : List Int} (d : Dig b32 xs) (i : Nat) : 0 ≤ xs.getD i 0 ∧ xs.getD i 0 < 4294967296 := d.getD (by decide) i
theorem mod32 (c : Int) : 0 ≤ c % 4294967296 ∧ c % 4294967296 < b32 := ⟨Int.emod_nonneg _ (by decide), Int.emod_lt_of_pos _ (by decide)⟩
theorem set_getD_ne {xs : List Int} {i j : Nat} {v : Int} (h : i ≠ j) : (xs.set i v).getD j 0 = xs.getD j 0 := by
  simp [List.getD, List.getElem?_set_ne h]
theorem carry_step {B P v c : Int} : v + P * (c % B) + c / B * (P * B) = v + P * c := by
  have := Int.emod_add_mul_ediv c B
  grind
section
variable {h g : Heap} {K : Value → Heap → Prop} {A B : Option Addr} {ac bc : Nat}
theorem addMag_core {x y : Int} {an bn : Nat} (ma : Mg h A an x) (mb : Mg h B bn y) (hab : bn ≤ an) (hl : an ≤ 100000000) (hK : ∀ A' m c' h', h.le h' → m ≤ c' → Mg h' A' m (x + y) → K (.slice A' m c') h') :
    wpH Tryz.prog (Instr.makeSlice ty_tU32s (I (wi64 ((an : Int) + 1))) (I (wi64 ((an : Int) + 1)))) (fun v hp1 => ∃ (t18A : Option Addr) (t18n : Nat) (t18c : Nat), v = .slice t18A t18n t18c ∧ ∃ (Invv : List Value → Heap → Prop) (muv : List Value → Heap → Nat), Invv [U (0 : Int), I (0 : Int)] hp1 ∧
  ∀ (c : Int) (i : Int), ∀ hp2, Invv [U c, I i] hp2 → Br (decide (i < ((an : Nat) : Int))) (∃ a2, A = some a2 ∧ 0 ≤ i ∧ i < ((an : Nat) : Int) ∧ ∃ (t29 : Int), Heap.cell? hp2 (Addr.add a2 ((i).toNat * 1)) = some (U32 t29) ∧ ∃ (Jv1 : List Value → Heap → Prop), (Br (decide (i < ((bn : Nat) : Int))) (∃ a3, B = some a3 ∧ 0 ≤ i ∧ i < ((bn : Nat) : Int) ∧ ∃ (t40 : Int), Heap.cell? hp2 (Addr.add a3 ((i).toNat * 1)) = some (U32 t40) ∧ Jv1 [U (wu64 ((wu64 (c + (wu64 t29))) + (wu64 t40)))] hp2)
  (Jv1 [U (wu64 (c + (wu64 t29)))] hp2)) ∧
  ∀ (c1 : Int), ∀ hp3, Jv1 [U c1] hp3 → ∃ a4, t18A = some a4 ∧ 0 ≤ i ∧ i < ((t18n : Nat) : Int) ∧ wpH Tryz.prog (Instr.storeAt ty_tU32s_e (.pointer (some (Addr.add a4 ((i).toNat * 1)))) (U32 (wu32 c1))) (fun _ hp4 => Invv [U (Int.fdiv c1 (2 ^ (min ((32 : Int)).toNat 64))), I (wi64 (i + (1 : Int)))] hp4 ∧ muv [U (Int.fdiv c1 (2 ^ (min ((32 : Int)).toNat 64))), I (wi64 (i + (1 : Int)))] hp4 < muv [U c, I i] hp2) hp3)
  (∃ a5, t18A = some a5 ∧ 0 ≤ ((an : Nat) : Int) ∧ ((an : Nat) : Int) < ((t18n : Nat) : Int) ∧ wpH Tryz.prog (Instr.storeAt ty_tU32s_e (.pointer (some (Addr.add a5 ((((an : Nat) : Int)).toNat * 1)))) (U32 (wu32 c))) (fun _ hp5 => FCall Tryz.prog f_NTrim #[.slice t18A t18n t18c] hp5 (fun r hp6 => ∃ (t57A : Option Addr) (t57n : Nat) (t57c : Nat), r = .slice t57A t57n t57c ∧ K (.slice t57A t57n t57c) hp6)) hp2)) h := by
  obtain ⟨xs, rfl, sx, dx, nx, rfl⟩ := ma
  obtain ⟨ys, rfl, sy, dy, ny, rfl⟩ := mb
  have e1 : wi64 ((xs.length : Int) + 1) = (xs.length : Int) + 1 := wi64_id (by omega) (by omega)
  rw [e1]
  refine blk_make tU32s (by omega) (by omega) (by omega) ?_
  intro b hb
  have e2 : ((xs.length : Int) + 1).toNat = xs.length + 1 := by omega
  rw [e2]
  refine ⟨_, _, _, rfl, ?_⟩
  refine ⟨fun l h' => ∃ (k : Nat) (c : Int) (zs : List Int), l = [U c, I k] ∧ k ≤ xs.length ∧ zs.length = xs.length + 1 ∧ Dig b32 zs ∧ (0 ≤ c ∧ c ≤ 1) ∧ h' = blk .u32 ty_tU32s_e h b zs ∧ val b32 (zs.take k) + c * b32 ^ k = val b32 (xs.take k) + val b32 (ys.take k), fun l _ => xs.length - (iAt l 1).toNat, ⟨0, 0, _, rfl, by omega, by simp, Dig.zeros (by decide) _, by omega, rfl, by simp [val]⟩, ?_⟩
  rintro c i hp ⟨k, c', zs, hli, hk, hzl, hd, hc, rfl, hv⟩
  obtain ⟨rfl, rfl⟩ : c = c' ∧ i = (k : Int) := by simpa using hli
  have hle := blk_le (k := .u32) (e := ty_tU32s_e) hb zs
  refine Br.dec (fun h1 => ?_) (fun h1 => ?_)
  · have gx := dig32 dx k
    have gy := dig32 dy k
    have vx := val_take_succ' b32 xs k
    have vy := val_take_succ' b32 ys k
    refine (sx.mono hle).load rfl (by omega) (by omega) ?_
    rw [Int.toNat_natCast]
    refine ⟨fun l h' => l = [U (c + xs.getD k 0 + ys.getD k 0)] ∧ h' = blk .u32 ty_tU32s_e h b zs, Br.dec (fun h2 => ?_) (fun h2 => ?_), ?_⟩
    · refine (sy.mono hle).load rfl (by omega) (by omega) ?_
      rw [Int.toNat_natCast]
      refine ⟨?_, rfl⟩
      rw [wu64_id (n := xs.getD k 0) (by omega) (by omega), wu64_id (n := ys.getD k 0) (by omega) (by omega), wu64_id (n := c + xs.getD k 0) (by omega) (by omega), wu64_id (by omega) (by omega)]
    · refine ⟨?_, rfl⟩
      have e0 : ys.getD k 0 = 0 := by simp [List.getD, List.getElem?_eq_none (show ys.length ≤ k by omega)]
      rw [e0, wu64_id (n := xs.getD k 0) (by omega) (by omega), wu64_id (by omega) (by omega)]; simp
    · rintro c1 hp3 ⟨hl1, rfl⟩
      obtain rfl : c1 = c + xs.getD k 0 + ys.getD k 0 := by simpa using hl1
      refine ⟨_, rfl, by omega, by omega, ?_⟩
      refine blk_store (k := .u32) (zs := zs) (i := (k : Int)) tU32s_one (by rw [Int.toNat_natCast]; omega) ?_
      rw [Int.toNat_natCast, wu32_mod, shr32, wi64_id (n := (k : Int) + 1) (by omega) (by omega)]
      refine ⟨⟨k + 1, _, zs.set k ((c + xs.getD k 0 + ys.getD k 0) % 4294967296), rfl, by omega, by simpa using hzl, hd.set (mod32 _), by omega, rfl, ?_⟩, by simp only [iAt, List.getElem?_cons_zero, List.getElem?_cons_succ]; omega⟩
      rw [take_set_succ (by omega), val_snoc, List.length_take, Nat.min_eq_left (by omega), Int.pow_succ, carry_step, vx, vy]
      grind
  · have hkk : k = xs.length := by omega
    subst hkk
    refine ⟨_, rfl, by omega, by omega, ?_⟩
    refine blk_store tU32s_one (by rw [Int.toNat_natCast]; omega) ?_
    rw [Int.toNat_natCast, wu32_id (by omega) (by omega)]
    have hzl2 : (zs.set xs.length c).length = xs.length + 1 := by simpa using hzl
    have hval : val b32 (zs.set xs.length c) = val b32 xs + val b32 ys := by
      have e3 : zs.set xs.length c = zs.take xs.length ++ [c] := by
        rw [← take_set_succ (by omega), List.take_of_length_le (by rw [hzl2]; omega)]
      rw [e3, val_snoc, List.length_take, Nat.min_eq_left (by omega)]
      rw [List.take_length, List.take_of_length_le (show ys.length ≤ xs.length by omega)] at hv
      grind
    rw [← hzl2]
    refine trim_mag (blk_sl _ _ _ _ _) (hd.set ⟨by omega, by show c < 4294967296; omega⟩) (Nat.le_refl _) (by rw [hzl2]; omega) ?_
    intro m hm hM
    rw [hval] at hM
    exact ⟨_, _, _, rfl, hK _ _ _ _ (blk_le hb _) hm hM⟩
theorem addMag_spec {x y : Int} {an bn : Nat} (ma : Mg h A an x) (mb : Mg h B bn y) (hl : an ≤ 100000000) (hl2 : bn ≤ 100000000) (hK : ∀ A' m c' h', h.le h' → m ≤ c' → Mg h' A' m (x + y) → K (.slice A' m c') h') : FCall Tryz.prog f_NAddMag #[.slice A an ac, .slice B bn bc] h K := by
  refine NAddMag_ok _ _ _ _ _ _ ?_
  unfold NAddMag
  refine ⟨fun l h' => h' = h ∧ ∃ (A1 B1 : Option Addr) (n1 n2 c1 c2 : Nat) (x1 y1 : Int), l = [.slice A1 n1 c1, .slice B1 n2 c2] ∧ Mg h A1 n1 x1 ∧ Mg h B1 n2 y1 ∧ n2 ≤ n1 ∧ n1 ≤ 100000000 ∧ x1 + y1 = x + y, Br.dec (fun h1 => ?_) (fun h1 => ?_), ?_⟩
  · exact ⟨rfl, _, _, _, _, _, _, y, x, rfl, mb, ma, by omega, hl2, Int.add_comm _ _⟩
  · exact ⟨rfl, _, _, _, _, _, _, x, y, rfl, ma, mb, by omega, hl, rfl⟩
  · rintro A1 n1 c1 B1 n2 c2 hp ⟨rfl, A1', B1', n1', n2', c1', c2', x1, y1, hli, m1, m2, hn, hn1, hxy⟩
    obtain ⟨⟨rfl, rfl, rfl⟩, rfl, rfl, rfl⟩ : (A1 = A1' ∧ n1 = n1' ∧ c1 = c1') ∧ B1 = B1' ∧ n2 = n2' ∧ c2 = c2' := by simpa using hli
    rw [← hxy] at hK
    exact addMag_core m1 m2 hn hn1 hK
end
end Go.Proofs.YtgnclfejnndicaaGreatDoor
/-
  subMag, smallDiv, mulMag.
-/
namespace Go.Proofs.YtgnclfejnndicaaGreatDoor
open Go
set_option maxRecDepth 20000
section
variable {h g : Heap} {K : Value → Heap → Prop} {A B : Option Addr} {ac bc : Nat}
theorem subMag_spec {x y : Int} {an bn : Nat} (ma : Mg h A an x) (mb : Mg h B bn y) (hxy : y ≤ x) (hl : an ≤ 100000000) (hK : ∀ A' m c' h', h.le h' → m ≤ c' → Mg h' A' m (x - y) → K (.slice A' m c') h') : FCall Tryz.prog f_NSubMag #[.slice A an ac, .slice B bn bc] h K := by
  have hbn : bn ≤ an := by
    have h1 := ma.lt (by decide)
    exact mb.len_le (by decide) (Int.lt_of_le_of_lt hxy h1)
  obtain ⟨xs, rfl, sx, dx, nx, rfl⟩ := ma
  obtain ⟨ys, rfl, sy, dy, ny, rfl⟩ := mb
  refine NSubMag_ok _ _ _ _ _ _ ?_
  unfold NSubMag
  refine blk_make tU32s (by omega) (by omega) (by omega) ?_
  intro b hb
  rw [Int.toNat_natCast]
  refine ⟨_, _, _, rfl, ?_⟩
  refine ⟨fun l h' => ∃ (k : Nat) (c : Int) (zs : List Int), l = [U c, I k] ∧ k ≤ xs.length ∧ zs.length = xs.length ∧ Dig b32 zs ∧ (0 ≤ c ∧ c ≤ 1) ∧ h' = blk .u32 ty_tU32s_e h b zs ∧ val b32 (zs.take k) = val b32 (xs.take k) - val b32 (ys.take k) + c * b32 ^ k, fun l _ => xs.length - (iAt l 1).toNat, ⟨0, 0, _, rfl, by omega, by simp, Dig.zeros (by decide) _, by omega, rfl, by simp [val]⟩, ?_⟩
  rintro c i hp ⟨k, c', zs, hli, hk, hzl, hd, hc, rfl, hv⟩
  obtain ⟨rfl, rfl⟩ : c = c' ∧ i = (k : Int) := by simpa using hli
  have hle := blk_le (k := .u32) (e := ty_tU32s_e) hb zs
  refine Br.dec (fun h1 => ?_) (fun h1 => ?_)
  · have gx := dig32 dx k
    have gy := dig32 dy k
    have vx := val_take_succ' b32 xs k
    have vy := val_take_succ' b32 ys k
    refine (sx.mono hle).load rfl (by omega) (by omega) ?_
    rw [Int.toNat_natCast]
    refine ⟨fun l h' => l = [U (wu64 (xs.getD k 0 - c - ys.getD k 0))] ∧ h' = blk .u32 ty_tU32s_e h b zs, Br.dec (fun h2 => ?_) (fun h2 => ?_), ?_⟩
    · refine (sy.mono hle).load rfl (by omega) (by omega) ?_
      rw [Int.toNat_natCast]
      refine ⟨?_, rfl⟩
      rw [wu64_id (n := xs.getD k 0) (by omega) (by omega), wu64_id (n := ys.getD k 0) (by omega) (by omega), wu64_mod, wu64_mod, wu64_mod]
      have em : ((xs.getD k 0 - c) % 18446744073709551616 - ys.getD k 0) % 18446744073709551616 = (xs.getD k 0 - c - ys.getD k 0) % 18446744073709551616 := by omega
      rw [em]
    · refine ⟨?_, rfl⟩
      have e0 : ys.getD k 0 = 0 := by simp [List.getD, List.getElem?_eq_none (show ys.length ≤ k by omega)]
      rw [e0, wu64_id (n := xs.getD k 0) (by omega) (by omega), Int.sub_zero]
    · rintro d hp3 ⟨hl1, rfl⟩
      obtain rfl : d = wu64 (xs.getD k 0 - c - ys.getD k 0) := by simpa using hl1
      refine ⟨_, rfl, by omega, by omega, ?_⟩
      refine blk_store (k := .u32) (zs := zs) (i := (k : Int)) tU32s_one (by rw [Int.toNat_natCast]; omega) ?_
      rw [Int.toNat_natCast, wu32_mod, shr32, wu64_mod, wi64_id (n := (k : Int) + 1) (by omega) (by omega), band_one64 (by omega)]
      refine ⟨⟨k + 1, _, zs.set k ((xs.getD k 0 - c - ys.getD k 0) % 18446744073709551616 % 4294967296), rfl, by omega, by simpa using hzl, hd.set (mod32 _), by omega, rfl, ?_⟩, by simp only [iAt, List.getElem?_cons_zero, List.getElem?_cons_succ]; omega⟩
      rw [take_set_succ (by omega), val_snoc, List.length_take, Nat.min_eq_left (by omega), Int.pow_succ, vx, vy, hv]
      have key : (xs.getD k 0 - c - ys.getD k 0) % 18446744073709551616 % 4294967296 = xs.getD k 0 - c - ys.getD k 0 + 4294967296 * ((xs.getD k 0 - c - ys.getD k 0) % 18446744073709551616 / 4294967296 % 2) := by omega
      rw [key]
      grind
  · have hkk : k = xs.length := by omega
    subst hkk
    rw [List.take_length, List.take_of_length_le (show ys.length ≤ xs.length by omega), List.take_of_length_le (show zs.length ≤ xs.length by omega)] at hv
    have hc0 : c = 0 := by
      have h1 := val_lt (by decide) hd
      rw [hzl] at h1
      by_cases h0 : c = 0
      · exact h0
      · have : c = 1 := by omega
        subst this
        omega
    subst hc0
    rw [← hzl]
    refine trim_mag (blk_sl _ _ _ _ _) hd (Nat.le_refl _) (by omega) ?_
    intro m hm hM
    have e : val b32 zs = val b32 xs - val b32 ys := by omega
    rw [e] at hM
    exact ⟨_, _, _, rfl, hK _ _ _ _ (blk_le hb _) hm hM⟩

theorem drop_getD {xs : List Int} {i : Nat} (hi : i < xs.length) : xs.drop i = xs.getD i 0 :: xs.drop (i + 1) := by
  rw [List.drop_eq_getElem_cons hi]; simp [List.getD, hi]
theorem val_drop (B : Int) {xs : List Int} {i : Nat} (hi : i < xs.length) : val B (xs.drop i) = xs.getD i 0 + B * val B (xs.drop (i + 1)) := by
  rw [drop_getD hi]; rfl
theorem drop_set_self {xs : List Int} {i : Nat} {v : Int} (hi : i < xs.length) : (xs.set i v).drop i = v :: xs.drop (i + 1) := by
  rw [List.drop_eq_getElem_cons (by simpa using hi)]
  simp [List.drop_set_of_lt]
theorem smallDiv_spec {x d : Int} {an : Nat} (ma : Mg h A an x) (hd0 : 0 < d ∧ d < 4294967296) (hl : an ≤ 100000000) (hK : ∀ A' m c' h', h.le h' → m ≤ c' → m ≤ an → Mg h' A' m (x / d) → K (.tuple #[.slice A' m c', U32 (x % d)]) h') : FCall Tryz.prog f_NSmallDiv #[.slice A an ac, U32 d] h K := by
  obtain ⟨xs, rfl, sx, dx, nx, rfl⟩ := ma
  refine NSmallDiv_ok _ _ _ _ ?_
  unfold NSmallDiv
  refine blk_make tU32s (by omega) (by omega) (by omega) ?_
  intro b hb
  rw [Int.toNat_natCast]
  refine ⟨_, _, _, rfl, ?_⟩
  refine ⟨fun l h' => ∃ (k : Nat) (r : Int) (zs : List Int), l = [U r, I ((k : Int) - 1)] ∧ k ≤ xs.length ∧ zs.length = xs.length ∧ Dig b32 zs ∧ (0 ≤ r ∧ r < d) ∧ h' = blk .u32 ty_tU32s_e h b zs ∧ val b32 (xs.drop k) = val b32 (zs.drop k) * d + r, fun l _ => (iAt l 1 + 1).toNat, ⟨xs.length, 0, _, by rw [wi64_id (by omega) (by omega)], by omega, by simp, Dig.zeros (by decide) _, by omega, rfl, by simp [val]⟩, ?_⟩
  rintro r i hp ⟨k, r', zs, hli, hk, hzl, hd, hr, rfl, hv⟩
  obtain ⟨rfl, rfl⟩ : r = r' ∧ i = (k : Int) - 1 := by simpa using hli
  have hle := blk_le (k := .u32) (e := ty_tU32s_e) hb zs
  refine Br.dec (fun h1 => ?_) (fun h1 => ?_)
  · obtain ⟨j, rfl⟩ : ∃ j, k = j + 1 := ⟨k - 1, by omega⟩
    have e : ((j + 1 : Nat) : Int) - 1 = (j : Int) := by omega
    rw [e]
    have gx := dig32 dx j
    refine (sx.mono hle).load rfl (by omega) (by omega) ?_
    rw [Int.toNat_natCast]
    have e1 : wu64 d = d := wu64_id (by omega) (by omega)
    have e2 : bor .u64 (wu64 (r * 2 ^ (min ((32 : Int)).toNat 64))) (wu64 (xs.getD j 0)) = r * 4294967296 + xs.getD j 0 := by
      rw [show (2 : Int) ^ (min ((32 : Int)).toNat 64) = 4294967296 by decide, wu64_id (n := xs.getD j 0) (by omega) (by omega), wu64_id (n := r * 4294967296) (by omega) (by omega)]
      exact bor_hi32 (by omega) gx
    rw [e1, e2]
    have hT : 0 ≤ r * 4294967296 + xs.getD j 0 := by omega
    have et : Int.tdiv (r * 4294967296 + xs.getD j 0) d = (r * 4294967296 + xs.getD j 0) / d := Int.tdiv_eq_ediv_of_nonneg hT
    have em : Int.tmod (r * 4294967296 + xs.getD j 0) d = (r * 4294967296 + xs.getD j 0) % d := Int.tmod_eq_emod_of_nonneg hT
    rw [et, em]
    have hq : 0 ≤ (r * 4294967296 + xs.getD j 0) / d ∧ (r * 4294967296 + xs.getD j 0) / d < 4294967296 := by
      constructor
      · exact Int.ediv_nonneg hT (by omega)
      · apply Int.ediv_lt_of_lt_mul (by omega)
        have : (r + 1) * 4294967296 ≤ d * 4294967296 := Int.mul_le_mul_of_nonneg_right (by omega) (by decide)
        omega
    refine Br.dec (fun e => absurd e (by omega)) (fun _ => ?_)
    refine ⟨_, rfl, by omega, by omega, ?_⟩
    refine blk_store (k := .u32) (zs := zs) (i := (j : Int)) tU32s_one (by rw [Int.toNat_natCast]; omega) ?_
    rw [Int.toNat_natCast, wu64_id (by omega) (by omega), wu32_id (by omega) (by omega), wi64_id (by omega) (by omega)]
    refine Br.dec (fun e => absurd e (by omega)) (fun _ => ?_)
    refine ⟨⟨j, _, zs.set j ((r * 4294967296 + xs.getD j 0) / d), rfl, by omega, by simpa using hzl, hd.set hq, ⟨Int.emod_nonneg _ (by omega), Int.emod_lt_of_pos _ (by omega)⟩, rfl, ?_⟩, by simp only [iAt, List.getElem?_cons_zero, List.getElem?_cons_succ]; omega⟩
    rw [drop_set_self (by omega), val_drop b32 (by omega), hv]
    have := Int.mul_ediv_add_emod (r * 4294967296 + xs.getD j 0) d
    simp only [val]
    grind
  · have hk0 : k = 0 := by omega
    subst hk0
    rw [List.drop_zero, List.drop_zero] at hv
    rw [← hzl]
    refine trim_mag (blk_sl _ _ _ _ _) hd (Nat.le_refl _) (by omega) ?_
    intro m hm hM
    have hq : val b32 xs / d = val b32 zs := by
      rw [hv, Int.add_comm, Int.add_mul_ediv_right _ _ (by omega), Int.ediv_eq_zero_of_lt hr.1 hr.2, Int.zero_add]
    have hrm : val b32 xs % d = r := by
      rw [hv, Int.add_comm, Int.add_mul_emod_self_right, Int.emod_eq_of_lt hr.1 hr.2]
    rw [← hq] at hM
    rw [wu32_id (by omega) (by omega), ← hrm]
    exact ⟨_, _, _, rfl, hK _ _ _ _ (blk_le hb _) hm (by omega) hM⟩
end
end Go.Proofs.YtgnclfejnndicaaGreatDoor
/-
  mulMag, shiftLeft.
-/
namespace Go.Proofs.YtgnclfejnndicaaGreatDoor
open Go
set_option maxRecDepth 20000
theorem mul32 {a b : Int} (ha : 0 ≤ a ∧ a < 4294967296) (hb : 0 ≤ b ∧ b < 4294967296) : 0 ≤ a * b ∧ a * b ≤ 18446744065119617025 := by
  refine ⟨Int.mul_nonneg ha.1 hb.1, ?_⟩
  have := Int.mul_le_mul (show a ≤ 4294967295 by omega) (show b ≤ 4294967295 by omega) hb.1 (by decide)
  omega
theorem getD_drop_eq {xs ys : List Int} {i : Nat} (h : xs.drop i = ys.drop i) : xs.getD i 0 = ys.getD i 0 := by
  have h1 : (xs.drop i)[0]? = (ys.drop i)[0]? := by rw [h]
  simp at h1
  simp [List.getD, h1]
theorem drop_succ_eq {xs ys : List Int} {i : Nat} (h : xs.drop i = ys.drop i) : xs.drop (i + 1) = ys.drop (i + 1) := by
  rw [← List.drop_drop, ← List.drop_drop, h]
theorem drop_set_lt {xs : List Int} {i j : Nat} {v : Int} (h : i < j) : (xs.set i v).drop j = xs.drop j := List.drop_set_of_lt h
section
variable {h g : Heap} {K : Value → Heap → Prop} {A B : Option Addr} {ac bc : Nat}
theorem mulMag_spec {x y : Int} {an bn : Nat} (ma : Mg h A an x) (mb : Mg h B bn y) (hl : an ≤ 100000000) (hl2 : bn ≤ 100000000) (hK : ∀ A' m c' h', h.le h' → m ≤ c' → Mg h' A' m (x * y) → K (.slice A' m c') h') : FCall Tryz.prog f_NMulMag #[.slice A an ac, .slice B bn bc] h K := by
  have hx0 := ma.len_zero (by decide)
  have hy0 := mb.len_zero (by decide)
  obtain ⟨xs, rfl, sx, dx, nx, rfl⟩ := ma
  obtain ⟨ys, rfl, sy, dy, ny, rfl⟩ := mb
  refine NMulMag_ok _ _ _ _ _ _ ?_
  unfold NMulMag
  refine Br.beq (fun h0 => ?_) (fun hx => Br.beq (fun h0 => ?_) (fun hy => ?_))
  · have := hK none 0 0 h (Heap.le_refl h) (Nat.le_refl _) (by rw [hx0.2 (by omega), Int.zero_mul]; exact Mag.zero)
    exact this
  · have := hK none 0 0 h (Heap.le_refl h) (Nat.le_refl _) (by rw [hy0.2 (by omega), Int.mul_zero]; exact Mag.zero)
    exact this
  have e1 : wi64 ((xs.length : Int) + ys.length) = ((xs.length + ys.length : Nat) : Int) := by rw [wi64_id (by omega) (by omega)]; omega
  rw [e1]
  refine blk_make tU32s (by omega) (by omega) (by omega) ?_
  intro b hb
  rw [Int.toNat_natCast]
  refine ⟨_, _, _, rfl, ?_⟩
  refine ⟨fun l h' => ∃ (k : Nat) (zs : List Int), l = [I k] ∧ k ≤ xs.length ∧ zs.length = xs.length + ys.length ∧ Dig b32 zs ∧ h' = blk .u32 ty_tU32s_e h b zs ∧ zs.drop (k + ys.length) = List.replicate (xs.length - k) 0 ∧ val b32 (zs.take (k + ys.length)) = val b32 (xs.take k) * val b32 ys, fun l _ => xs.length - (iAt l 0).toNat, ⟨0, _, rfl, by omega, by simp, Dig.zeros (by decide) _, rfl, by simp, ?_⟩, ?_⟩
  · rw [List.take_replicate, val_zeros]; simp [val]
  rintro i hp ⟨k, zs0, hli, hk, hzl0, hd0, rfl, hdr0, hv0⟩
  obtain rfl : i = (k : Int) := by simpa using hli
  refine Br.dec (fun h1 => ?_) (fun h1 => ?_)
  · have gx := dig32 dx k
    have vx := val_take_succ' b32 xs k
    refine ⟨fun l h' => ∃ (m : Nat) (c : Int) (zs : List Int), l = [U c, I m] ∧ m ≤ ys.length ∧ zs.length = xs.length + ys.length ∧ Dig b32 zs ∧ (0 ≤ c ∧ c < 4294967296) ∧ h' = blk .u32 ty_tU32s_e h b zs ∧ zs.drop (k + m) = zs0.drop (k + m) ∧ val b32 (zs.take (k + m)) + c * b32 ^ (k + m) = val b32 (zs0.take (k + m)) + b32 ^ k * (xs.getD k 0 * val b32 (ys.take m)), fun l _ => ys.length - (iAt l 1).toNat, ⟨0, 0, zs0, rfl, by omega, hzl0, hd0, by omega, rfl, rfl, by simp [val]⟩, ?_⟩
    rintro c j hp2 ⟨m, c', zs, hlj, hm, hzl, hd, hc, rfl, hdr, hv⟩
    obtain ⟨rfl, rfl⟩ : c = c' ∧ j = (m : Int) := by simpa using hlj
    have hle := blk_le (k := .u32) (e := ty_tU32s_e) hb zs
    refine Br.dec (fun h2 => ?_) (fun h2 => ?_)
    · have gy := dig32 dy m
      have vy := val_take_succ' b32 ys m
      have gz := dig32 hd (k + m)
      have hzz := getD_drop_eq hdr
      have vz := val_take_succ' b32 zs0 (k + m)
      have ekm : wi64 ((k : Int) + m) = ((k + m : Nat) : Int) := by rw [wi64_id (by omega) (by omega)]; omega
      rw [ekm]
      refine (sx.mono hle).load rfl (by omega) (by omega) ?_
      refine (sy.mono hle).load rfl (by omega) (by omega) ?_
      refine (blk_sl .u32 ty_tU32s_e h b zs).load hzl.symm (by omega) (by omega) ?_
      simp only [Int.toNat_natCast]
      have hp := mul32 gx gy
      have ec : wu64 (c + wu64 (wu64 (wu64 (xs.getD k 0) * wu64 (ys.getD m 0)) + wu64 (zs.getD (k + m) 0))) = c + (xs.getD k 0 * ys.getD m 0 + zs.getD (k + m) 0) := by
        rw [wu64_id (n := xs.getD k 0) (by omega) (by omega), wu64_id (n := ys.getD m 0) (by omega) (by omega), wu64_id (n := zs.getD (k + m) 0) (by omega) (by omega), wu64_id (n := xs.getD k 0 * ys.getD m 0) (by omega) (by omega), wu64_id (n := xs.getD k 0 * ys.getD m 0 + zs.getD (k + m) 0) (by omega) (by omega), wu64_id (by omega) (by omega)]
      rw [ec]
      refine ⟨_, rfl, by omega, by omega, ?_⟩
      refine blk_store (k := .u32) (zs := zs) (i := ((k + m : Nat) : Int)) tU32s_one (by rw [Int.toNat_natCast]; omega) ?_
      rw [Int.toNat_natCast, wu32_mod, shr32, wi64_id (n := (m : Int) + 1) (by omega) (by omega)]
      refine ⟨⟨m + 1, _, zs.set (k + m) ((c + (xs.getD k 0 * ys.getD m 0 + zs.getD (k + m) 0)) % 4294967296), rfl, by omega, by simpa using hzl, hd.set (mod32 _), by omega, rfl, ?_, ?_⟩, by simp only [iAt, List.getElem?_cons_zero, List.getElem?_cons_succ]; omega⟩
      · rw [drop_set_lt (by omega)]; exact drop_succ_eq hdr
      · rw [← Nat.add_assoc, take_set_succ (by omega), val_snoc, List.length_take, Nat.min_eq_left (by omega), Int.pow_succ, carry_step, vy, vz, ← hzz]
        have : b32 ^ (k + m) = b32 ^ k * b32 ^ m := Int.pow_add _ _ _
        grind
    · have hmm : m = ys.length := by omega
      subst hmm
      have ekm : wi64 ((k : Int) + ys.length) = ((k + ys.length : Nat) : Int) := by rw [wi64_id (by omega) (by omega)]; omega
      rw [ekm]
      refine ⟨_, rfl, by omega, by omega, ?_⟩
      refine blk_store (k := .u32) (zs := zs) (i := ((k + ys.length : Nat) : Int)) tU32s_one (by rw [Int.toNat_natCast]; omega) ?_
      rw [Int.toNat_natCast, wu32_id (by omega) (by omega), wi64_id (n := (k : Int) + 1) (by omega) (by omega)]
      have ea : k + 1 + ys.length = k + ys.length + 1 := by omega
      refine ⟨⟨k + 1, zs.set (k + ys.length) c, rfl, by omega, by simpa using hzl, hd.set hc, rfl, ?_, ?_⟩, by simp only [iAt, List.getElem?_cons_zero]; omega⟩
      · rw [ea, drop_set_lt (by omega), drop_succ_eq hdr, ← List.drop_drop, hdr0, List.drop_replicate]
        congr 1
      · rw [ea, take_set_succ (by omega), val_snoc, List.length_take, Nat.min_eq_left (by omega)]
        rw [List.take_length] at hv
        rw [vx]
        grind
  · have hkk : k = xs.length := by omega
    subst hkk
    rw [List.take_length, List.take_of_length_le (show zs0.length ≤ xs.length + ys.length by omega)] at hv0
    rw [← hzl0]
    refine trim_mag (blk_sl _ _ _ _ _) hd0 (Nat.le_refl _) (by omega) ?_
    intro m hm hM
    rw [hv0] at hM
    exact ⟨_, _, _, rfl, hK _ _ _ _ (blk_le hb _) hm hM⟩

/-- a shift by s bits, digit by digit: the low part is a multiple of 2^s -/
theorem or_shift {x z : Int} {s : Nat} (hs : s ≤ 32) (hx : 0 ≤ x ∧ x < 4294967296) (hz : 0 ≤ z ∧ z < (2 : Int) ^ s) :
    bor .u32 z (x * 2 ^ s % 4294967296) = z + x * 2 ^ s % 4294967296 ∧ z + x * 2 ^ s % 4294967296 < 4294967296 := by
  have hp : (2 : Int) ^ s * 2 ^ (32 - s) = 4294967296 := by
    rw [← Int.pow_add, show s + (32 - s) = 32 by omega]; decide
  have hps : 0 < (2 : Int) ^ s := Int.pow_pos (by decide)
  have hpt : 0 < (2 : Int) ^ (32 - s) := Int.pow_pos (by decide)
  have hz32 : z < 4294967296 := by
    have : (2 : Int) ^ s * 1 ≤ 2 ^ s * 2 ^ (32 - s) := Int.mul_le_mul_of_nonneg_left (by omega) (by omega)
    omega
  have em : x * 2 ^ s % 4294967296 = 2 ^ s * (x % 2 ^ (32 - s)) := by
    rw [← hp, Int.mul_comm x, Int.mul_emod_mul_of_pos _ _ hps]
  have hm := mod32 (x * 2 ^ s)
  have hor : bor .u32 z (x * 2 ^ s % 4294967296) = z + x * 2 ^ s % 4294967296 := by
    rw [bor32 ⟨hz.1, hz32⟩ hm]
    have ha0 : 0 ≤ x % 2 ^ (32 - s) := Int.emod_nonneg _ (by omega)
    have e1 : (x * 2 ^ s % 4294967296).toNat = 2 ^ s * (x % 2 ^ (32 - s)).toNat := by
      rw [em, Int.toNat_mul (by omega) ha0]
      rw [Int.toNat_pow_of_nonneg (by decide)]; rfl
    have hzn : z.toNat < 2 ^ s := by
      have : ((2 ^ s : Nat) : Int) = (2 : Int) ^ s := by simp
      omega
    rw [e1, Nat.or_comm, or_add hzn, ← e1]
    omega
  refine ⟨hor, ?_⟩
  rw [← hor, bor32 ⟨hz.1, hz32⟩ hm]
  have : z.toNat ||| (x * 2 ^ s % 4294967296).toNat < 2 ^ 32 := Nat.or_lt_two_pow (by omega) (by have := hm.2; show _ < _; omega)
  omega
theorem shiftLeft_spec {xs : List Int} {s : Nat} (sx : SlI .u32 h A xs) (dx : Dig b32 xs) (hs : s < 32) (hl : xs.length ≤ 100000000) (hK : ∀ b zs, h b = none → zs.length = xs.length + 1 → Dig b32 zs → val b32 zs = val b32 xs * 2 ^ s → K (.slice (some ⟨b, 0, none⟩) (xs.length + 1) (xs.length + 1)) (blk .u32 ty_tU32s_e h b zs)) : FCall Tryz.prog f_NShiftLeft #[.slice A xs.length ac, U s] h K := by
  refine NShiftLeft_ok _ _ _ _ ?_
  unfold NShiftLeft
  have e1 : wi64 ((xs.length : Int) + 1) = ((xs.length + 1 : Nat) : Int) := by rw [wi64_id (by omega) (by omega)]; omega
  rw [e1]
  refine blk_make tU32s (by omega) (by omega) (by omega) ?_
  intro b hb
  rw [Int.toNat_natCast]
  refine ⟨_, _, _, rfl, ?_⟩
  have hps : 0 < (2 : Int) ^ s := Int.pow_pos (by decide)
  have hps2 : (2 : Int) ^ s ≤ 2147483648 := by
    have := pow_le_pow' (B := 2) (by decide) (show s ≤ 31 by omega)
    have e : (2 : Int) ^ 31 = 2147483648 := by decide
    omega
  refine ⟨fun l h' => ∃ (k : Nat) (zs : List Int), l = [I k] ∧ k ≤ xs.length ∧ zs.length = xs.length + 1 ∧ Dig b32 zs ∧ h' = blk .u32 ty_tU32s_e h b zs ∧ zs.drop (k + 1) = List.replicate (xs.length - k) 0 ∧ zs.getD k 0 < 2 ^ s ∧ val b32 (zs.take (k + 1)) = val b32 (xs.take k) * 2 ^ s, fun l _ => xs.length - (iAt l 0).toNat, ⟨0, _, rfl, by omega, by simp, Dig.zeros (by decide) _, rfl, by simp, by simpa using hps, by simp [val]⟩, ?_⟩
  rintro i hp ⟨k, zs, hli, hk, hzl, hd, rfl, hdr, hg, hv⟩
  obtain rfl : i = (k : Int) := by simpa using hli
  have hle := blk_le (k := .u32) (e := ty_tU32s_e) hb zs
  refine Br.dec (fun h1 => ?_) (fun h1 => ?_)
  · have gx := dig32 dx k
    have gz := dig32 hd k
    have vx := val_take_succ' b32 xs k
    have vz := val_take_succ' b32 zs k
    refine (sx.mono hle).load rfl (by omega) (by omega) ?_
    refine Br.dec (fun e => absurd e (by omega)) (fun _ => ?_)
    refine (blk_sl .u32 ty_tU32s_e h b zs).load hzl.symm (by omega) (by omega) ?_
    simp only [Int.toNat_natCast]
    obtain ⟨o1, o2⟩ := or_shift (Nat.le_of_lt hs) gx ⟨gz.1, hg⟩
    have hv0 : 0 ≤ xs.getD k 0 * 2 ^ s := Int.mul_nonneg gx.1 (by omega)
    have hv1 : xs.getD k 0 * 2 ^ s < 4294967296 * 2 ^ s := Int.mul_lt_mul_of_pos_right gx.2 hps
    have ev : wu64 (wu64 (xs.getD k 0) * 2 ^ (min s 64)) = xs.getD k 0 * 2 ^ s := by
      rw [wu64_id (n := xs.getD k 0) (by omega) (by omega), Nat.min_eq_left (by omega), wu64_id (by omega) (by omega)]
    rw [ev]
    refine ⟨_, rfl, by omega, by omega, ?_⟩
    refine blk_store (k := .u32) (zs := zs) (i := (k : Int)) tU32s_one (by rw [Int.toNat_natCast]; omega) ?_
    rw [Int.toNat_natCast, wu32_mod (xs.getD k 0 * 2 ^ s), o1, shr32]
    have ek : wi64 ((k : Int) + 1) = ((k + 1 : Nat) : Int) := by rw [wi64_id (by omega) (by omega)]; omega
    rw [ek]
    have hq : 0 ≤ xs.getD k 0 * 2 ^ s / 4294967296 ∧ xs.getD k 0 * 2 ^ s / 4294967296 < 2 ^ s := ⟨Int.ediv_nonneg hv0 (by decide), Int.ediv_lt_of_lt_mul (by decide) (by rw [Int.mul_comm (2 ^ s)]; exact hv1)⟩
    refine ⟨_, rfl, by omega, by omega, ?_⟩
    refine blk_store (k := .u32) (zs := zs.set k (zs.getD k 0 + xs.getD k 0 * 2 ^ s % 4294967296)) (i := ((k + 1 : Nat) : Int)) tU32s_one (by rw [Int.toNat_natCast, List.length_set]; omega) ?_
    rw [Int.toNat_natCast, wu32_id (by omega) (by omega)]
    have hm0 := mod32 (xs.getD k 0 * 2 ^ s)
    refine ⟨⟨k + 1, (zs.set k (zs.getD k 0 + xs.getD k 0 * 2 ^ s % 4294967296)).set (k + 1) (xs.getD k 0 * 2 ^ s / 4294967296), rfl, by omega, by simpa using hzl, (hd.set ⟨by omega, o2⟩).set ⟨hq.1, by show _ < (4294967296 : Int); omega⟩, rfl, ?_, ?_, ?_⟩, by simp only [iAt, List.getElem?_cons_zero]; omega⟩
    · rw [drop_set_lt (by omega), drop_set_lt (by omega), ← List.drop_drop, hdr, List.drop_replicate]
      congr 1
    · have : ((zs.set k (zs.getD k 0 + xs.getD k 0 * 2 ^ s % 4294967296)).set (k + 1) (xs.getD k 0 * 2 ^ s / 4294967296)).getD (k + 1) 0 = xs.getD k 0 * 2 ^ s / 4294967296 := by
        rw [List.getD, List.getElem?_set_self (by rw [List.length_set]; omega)]; rfl
      rw [this]; exact hq.2
    · rw [take_set_succ (by rw [List.length_set]; omega), val_snoc, take_set_succ (by omega), val_snoc]
      simp only [List.length_take, List.length_append, List.length_set, List.length_singleton]
      rw [Nat.min_eq_left (show k ≤ zs.length by omega), Int.pow_succ, vx]
      have := Int.emod_add_mul_ediv (xs.getD k 0 * 2 ^ s) 4294967296
      rw [vz] at hv
      grind
  · have hkk : k = xs.length := by omega
    subst hkk
    rw [List.take_length, List.take_of_length_le (by omega)] at hv
    exact hK b zs hb hzl hd hv
end
end Go.Proofs.YtgnclfejnndicaaGreatDoor
/-
  Plain: the estimate of a quotient's digit (Knuth's algorithm D), in any base.
-/
namespace Go.Proofs.YtgnclfejnndicaaGreatDoor
open Go

/-- the two numbers with their first digits: U = (top * B + u2) * P + ul, V = (v1 * B + v2) * P + vl -/
structure Est (B P top u2 ul v1 v2 vl U V : Int) : Prop where
  hB : 1 < B
  hP : 0 < P
  hU : U = (top * B + u2) * P + ul
  hV : V = (v1 * B + v2) * P + vl
  u2r : 0 ≤ u2 ∧ u2 < B
  ulr : 0 ≤ ul ∧ ul < P
  v2r : 0 ≤ v2 ∧ v2 < B
  vlr : 0 ≤ vl ∧ vl < P
  top0 : 0 ≤ top
  v1r : B ≤ 2 * v1 ∧ v1 < B
  lt : U < V * B
section
variable {B P top u2 ul v1 v2 vl U V : Int}
theorem Est.U0 (e : Est B P top u2 ul v1 v2 vl U V) : 0 ≤ U := by
  obtain ⟨hB, hP, hU, hV, u2r, ulr, v2r, vlr, top0, v1r, lt⟩ := e
  have h1 : 0 ≤ top * B := Int.mul_nonneg top0 (by omega)
  have : 0 ≤ (top * B + u2) * P := Int.mul_nonneg (by omega) (by omega)
  omega
theorem Est.V0 (e : Est B P top u2 ul v1 v2 vl U V) : 0 < V := by
  obtain ⟨hB, hP, hU, hV, u2r, ulr, v2r, vlr, top0, v1r, lt⟩ := e
  have h1 : 0 < v1 * B := Int.mul_pos (by omega) (by omega)
  have : 0 < (v1 * B + v2) * P := Int.mul_pos (by omega) hP
  omega
theorem Est.V2 (e : Est B P top u2 ul v1 v2 vl U V) : B ≤ v1 * B + v2 := by
  obtain ⟨hB, hP, hU, hV, u2r, ulr, v2r, vlr, top0, v1r, lt⟩ := e
  have : 1 * B ≤ v1 * B := Int.mul_le_mul_of_nonneg_right (by omega) (by omega)
  omega
/-- an estimate that fails the test is too great -/
theorem Est.low (e : Est B P top u2 ul v1 v2 vl U V) {q : Int} (h0 : 0 ≤ q) (h : top * B + u2 < q * (v1 * B + v2)) : U < q * V := by
  obtain ⟨hB, hP, hU, hV, u2r, ulr, v2r, vlr, top0, v1r, lt⟩ := e
  have h1 : (top * B + u2 + 1) * P ≤ q * (v1 * B + v2) * P := Int.mul_le_mul_of_nonneg_right (by omega) (by omega)
  have h2 : 0 ≤ q * vl := Int.mul_nonneg h0 vlr.1
  have h3 : q * V = q * (v1 * B + v2) * P + q * vl := by rw [hV]; grind
  have h4 : (top * B + u2 + 1) * P = (top * B + u2) * P + P := by grind
  omega
theorem Est.big (e : Est B P top u2 ul v1 v2 vl U V) {q : Int} (h : B ≤ q) : U < q * V := by
  have := Int.mul_le_mul_of_nonneg_right h (Int.le_of_lt e.V0)
  have := e.lt
  rw [Int.mul_comm V] at this
  omega
theorem Est.init (e : Est B P top u2 ul v1 v2 vl U V) : U < (top / v1 + 1) * V := by
  obtain ⟨hB, hP, hU, hV, u2r, ulr, v2r, vlr, top0, v1r, lt⟩ := e
  have hq : 0 ≤ top / v1 := Int.ediv_nonneg top0 (by omega)
  have h1 : top + 1 ≤ (top / v1 + 1) * v1 := by
    have := Int.mul_ediv_add_emod top v1
    have := Int.emod_lt_of_pos top (show 0 < v1 by omega)
    grind
  have hBP : 0 < B * P := Int.mul_pos (by omega) hP
  have h2 : (top + 1) * (B * P) ≤ (top / v1 + 1) * v1 * (B * P) := Int.mul_le_mul_of_nonneg_right h1 (by omega)
  have h3 : 0 ≤ (top / v1 + 1) * (v2 * P + vl) := Int.mul_nonneg (by omega) (by have := Int.mul_nonneg v2r.1 (Int.le_of_lt hP); omega)
  have h4 : (top / v1 + 1) * V = (top / v1 + 1) * v1 * (B * P) + (top / v1 + 1) * (v2 * P + vl) := by rw [hV]; grind
  have h5 : (top + 1) * (B * P) = top * B * P + B * P := by grind
  have h6 : (u2 + 1) * P ≤ B * P := Int.mul_le_mul_of_nonneg_right (by omega) (by omega)
  have h7 : U = top * B * P + u2 * P + ul := by rw [hU]; grind
  have h8 : (u2 + 1) * P = u2 * P + P := by grind
  omega
/-- an estimate that passes the test is too great by at most 1 -/
theorem Est.up (e : Est B P top u2 ul v1 v2 vl U V) {q : Int} (hq : q ≤ B) (h : q * (v1 * B + v2) ≤ top * B + u2) : (q - 1) * V ≤ U := by
  have hV2 := e.V2
  have hV0 := e.V0
  have hU0 := e.U0
  obtain ⟨hB, hP, hU, hV, u2r, ulr, v2r, vlr, top0, v1r, lt⟩ := e
  by_cases h1 : q ≤ 0
  · have : (q - 1) * V ≤ 0 := Int.mul_nonpos_of_nonpos_of_nonneg (by omega) (by omega)
    omega
  · have h2 : (q - 1) * vl ≤ (q - 1) * P := Int.mul_le_mul_of_nonneg_left (by omega) (by omega)
    have h3 : (q * (v1 * B + v2)) * P ≤ (top * B + u2) * P := Int.mul_le_mul_of_nonneg_right h (by omega)
    have h4 : (q - 1) * V = (q * (v1 * B + v2)) * P - (v1 * B + v2) * P + (q - 1) * vl := by rw [hV]; grind
    have h5 : (q - 1) * P ≤ (v1 * B + v2) * P := Int.mul_le_mul_of_nonneg_right (by omega) (by omega)
    omega
/-- the first estimate is at most B + 1 -/
theorem Est.first (e : Est B P top u2 ul v1 v2 vl U V) : top < (v1 + 1) * B ∧ top / v1 ≤ B + 1 := by
  obtain ⟨hB, hP, hU, hV, u2r, ulr, v2r, vlr, top0, v1r, lt⟩ := e
  have hBP : 0 < B * P := Int.mul_pos (by omega) hP
  have h1 : top * (B * P) ≤ U := by
    have : 0 ≤ u2 * P := Int.mul_nonneg u2r.1 (by omega)
    have : U = top * (B * P) + u2 * P + ul := by rw [hU]; grind
    omega
  have h2 : V < (v1 + 1) * (B * P) := by
    have h3 : (v2 + 1) * P ≤ B * P := Int.mul_le_mul_of_nonneg_right (by omega) (by omega)
    have : V = v1 * (B * P) + v2 * P + vl := by rw [hV]; grind
    have : (v1 + 1) * (B * P) = v1 * (B * P) + B * P := by grind
    have : (v2 + 1) * P = v2 * P + P := by grind
    omega
  have h3 : V * B ≤ (v1 + 1) * (B * P) * B := Int.mul_le_mul_of_nonneg_right (by omega) (by omega)
  have h4 : top * (B * P) < (v1 + 1) * B * (B * P) := by
    have : (v1 + 1) * (B * P) * B = (v1 + 1) * B * (B * P) := by grind
    omega
  have h5 : top < (v1 + 1) * B := Int.lt_of_mul_lt_mul_right h4 (by omega)
  refine ⟨h5, ?_⟩
  have : top / v1 < B + 2 := by
    apply Int.ediv_lt_of_lt_mul (by omega)
    have : (v1 + 1) * B = v1 * B + B := by grind
    have : v1 * (B + 2) = v1 * B + 2 * v1 := by grind
    have : (B + 2) * v1 = v1 * B + 2 * v1 := by grind
    omega
  omega
end
end Go.Proofs.YtgnclfejnndicaaGreatDoor
/-
  The loops of divMag: estimate, subtract, add back.
-/
namespace Go.Proofs.YtgnclfejnndicaaGreatDoor
open Go
set_option maxRecDepth 20000

/-- two blocks of numbers of the call's own -/
def blk2 (k : IntKind) (e : TypeId) (g : Heap) (bu : Nat) (us : List Int) (bq : Nat) (qs : List Int) : Heap := blk k e (blk k e g bu us) bq qs
section
variable {k : IntKind} {e : TypeId} {g : Heap} {bu bq : Nat} {us qs : List Int}
theorem blk2_le (hu : g bu = none) (hq : g bq = none) (hne : bu ≠ bq) : g.le (blk2 k e g bu us bq qs) :=
  Heap.le_trans (blk_le hu us) (blk_le (by unfold blk; rw [Heap.put_other _ _ hne.symm]; exact hq) qs)
theorem blk2_comm (hne : bu ≠ bq) : blk2 k e g bu us bq qs = blk k e (blk k e g bq qs) bu us := by
  unfold blk2 blk; exact Heap.put_comm g _ _ hne
theorem blk2_u (hne : bu ≠ bq) : SlI k (blk2 k e g bu us bq qs) (some ⟨bu, 0, none⟩) us := by
  rw [blk2_comm hne]; exact blk_sl k e _ bu us
theorem blk2_q : SlI k (blk2 k e g bu us bq qs) (some ⟨bq, 0, none⟩) qs := blk_sl k e _ bq qs
theorem blk2_storeU {P : Program} {t : TypeId} (one : P.cellsOf t = 1 ∧ (P.info? t).isSome = true) (hne : bu ≠ bq) {n i : Int} (hi : i.toNat < us.length) {K : Unit → Heap → Prop}
    (x : K () (blk2 k e g bu (us.set i.toNat n) bq qs)) : wpH P (Instr.storeAt t (.pointer (some (Addr.add ⟨bu, 0, none⟩ (i.toNat * 1)))) (.int k n)) K (blk2 k e g bu us bq qs) := by
  rw [blk2_comm hne]
  rw [blk2_comm hne] at x
  exact blk_store one hi x
theorem blk2_storeQ {P : Program} {t : TypeId} (one : P.cellsOf t = 1 ∧ (P.info? t).isSome = true) {n i : Int} (hi : i.toNat < qs.length) {K : Unit → Heap → Prop}
    (x : K () (blk2 k e g bu us bq (qs.set i.toNat n))) : wpH P (Instr.storeAt t (.pointer (some (Addr.add ⟨bq, 0, none⟩ (i.toNat * 1)))) (.int k n)) K (blk2 k e g bu us bq qs) :=
  blk_store one hi x
end

theorem getD_drop {xs : List Int} {j i : Nat} : (xs.drop j).getD i 0 = xs.getD (j + i) 0 := by simp [List.getD]

section
variable {g : Heap} {bu bq : Nat} {us qs : List Int} {VA : Option Addr} {vs : List Int}
theorem est_loop {n j : Nat} {J : List Value → Heap → Prop} {hp : Heap} {UA : Option Addr} {top u2 ul v1 v2 vl X Y P : Int} {t87 t96 : Int} (es : Est 4294967296 P top u2 ul v1 v2 vl X Y) (sv : SlI .u32 hp VA vs) (su : SlI .u32 hp UA us) (hn : n = vs.length) (hn2 : 2 ≤ n) (hul : j + n < us.length) (hbig : us.length ≤ 200000000)
    (hv1 : vs.getD (n - 1) 0 = v1) (hv2 : vs.getD (n - 2) 0 = v2) (hu2 : us.getD (j + n - 2) 0 = u2) (h87 : 0 ≤ t87 ∧ t87 < 4294967296) (h96 : 0 ≤ t96 ∧ t96 < 4294967296) (htop : top = t87 * 4294967296 + t96)
    (hJ : ∀ q, 0 ≤ q → q ≤ 4294967296 → X < (q + 1) * Y → (q - 1) * Y ≤ X → J [U q] hp) : NDivMagL20 Tryz.prog VA n UA us.length j t87 t96 v1 v1 J hp := by
  obtain ⟨f1, f2⟩ := es.first
  have hin := es.init
  have hv0 := es.V0
  have hU0 := es.U0
  have v1r := es.v1r
  have v2r := es.v2r
  have u2r := es.u2r
  have top0 := es.top0
  have e87 : bor .u64 (wu64 (wu64 t87 * 2 ^ (min ((32 : Int)).toNat 64))) (wu64 t96) = top := by
    rw [show (2 : Int) ^ (min ((32 : Int)).toNat 64) = 4294967296 by decide, wu64_id (n := t87) (by omega) (by omega), wu64_id (n := t96) (by omega) (by omega), wu64_id (n := t87 * 4294967296) (by omega) (by omega), bor_hi32 h87 h96, htop]
  have ev1 : wu64 v1 = v1 := wu64_id (by omega) (by omega)
  unfold NDivMagL20
  rw [e87, ev1, Int.tdiv_eq_ediv_of_nonneg top0, Int.tmod_eq_emod_of_nonneg top0]
  have hq0 : 0 ≤ top / v1 := Int.ediv_nonneg top0 (by omega)
  have hdm := Int.mul_ediv_add_emod top v1
  have hm0 := Int.emod_nonneg top (show v1 ≠ 0 by omega)
  have hm1 := Int.emod_lt_of_pos top (show 0 < v1 by omega)
  refine ⟨fun l h' => ∃ q r : Int, l = [U q, U r] ∧ h' = hp ∧ 0 ≤ q ∧ q ≤ 4294967297 ∧ 0 ≤ r ∧ r < 4294967296 ∧ q * v1 + r = top ∧ X < (q + 1) * Y, fun l _ => match l with | [.int _ q, _] => q.toNat | _ => 0, ⟨_, _, rfl, rfl, ?_, ?_, hm0, by omega, ?_, ?_⟩, ?_⟩
  · rw [wu64_id (by omega) (by omega)]; exact hq0
  · rw [wu64_id (by omega) (by omega)]; omega
  · rw [wu64_id (by omega) (by omega), Int.mul_comm]; exact hdm
  · rw [wu64_id (by omega) (by omega)]; exact hin
  rintro q r hp12 ⟨q', r', hl, rfl, hq, hq2, hr, hr2, hqr, hlt⟩
  obtain ⟨rfl, rfl⟩ : q = q' ∧ r = r' := by simpa using hl
  have en1 : wi64 ((n : Int) - 1) = ((n - 1 : Nat) : Int) := by rw [wi64_id (by omega) (by omega)]; omega
  have en2 : wi64 ((n : Int) - 2) = ((n - 2 : Nat) : Int) := by rw [wi64_id (by omega) (by omega)]; omega
  have ej2 : wi64 (wi64 ((j : Int) + (n : Int)) - 2) = ((j + n - 2 : Nat) : Int) := by rw [wi64_id (n := (j : Int) + n) (by omega) (by omega), wi64_id (by omega) (by omega)]; omega
  refine ⟨fun l h' => l = [] ∧ h' = hp12 ∧ X < q * Y, ?_, ?_⟩
  · refine Br.dec (fun h1 => ⟨rfl, rfl, es.big h1⟩) (fun h1 => ?_)
    rw [en2, ej2]
    refine sv.load hn (by omega) (by omega) ?_
    refine su.load rfl (by omega) (by omega) ?_
    rw [Int.toNat_natCast, Int.toNat_natCast, hv2, hu2]
    have hp := mul32 (a := q) (b := v2) (by omega) v2r
    have eq2 : wu64 (q * wu64 v2) = q * v2 := by rw [wu64_id (n := v2) (by omega) (by omega), wu64_id (by omega) (by omega)]
    have er2 : bor .u64 (wu64 (r * 2 ^ (min ((32 : Int)).toNat 64))) (wu64 u2) = r * 4294967296 + u2 := by
      rw [show (2 : Int) ^ (min ((32 : Int)).toNat 64) = 4294967296 by decide, wu64_id (n := u2) (by omega) (by omega), wu64_id (n := r * 4294967296) (by omega) (by omega), bor_hi32 ⟨hr, hr2⟩ u2r]
    rw [eq2, er2]
    have key : q * (v1 * 4294967296 + v2) = (top - r) * 4294967296 + q * v2 := by rw [← hqr]; grind
    refine Br.dec (fun h2 => ⟨rfl, rfl, es.low hq (by omega)⟩) (fun h2 => ?_)
    refine hJ q hq (by omega) hlt (es.up (by omega) (by omega))
  · rintro hp13 ⟨_, rfl, hlq⟩
    have hq1 : 1 ≤ q := by
      by_cases h0 : 1 ≤ q
      · exact h0
      · have : q = 0 := by omega
        subst this; omega
    rw [en1]
    refine sv.load hn (by omega) (by omega) ?_
    rw [Int.toNat_natCast, hv1, ev1, wu64_id (n := r + v1) (by omega) (by omega), wu64_id (n := q - 1) (by omega) (by omega)]
    have hlt' : X < (q - 1 + 1) * Y := by rw [Int.sub_add_cancel]; exact hlq
    have hqr' : (q - 1) * v1 + (r + v1) = top := by grind
    refine Br.dec (fun h3 => ?_) (fun h3 => ?_)
    · have key : (q - 1) * (v1 * 4294967296 + v2) = (top - (r + v1)) * 4294967296 + (q - 1) * v2 := by rw [← hqr']; grind
      have hb : (q - 1) * v2 ≤ 4294967296 * v2 := Int.mul_le_mul_of_nonneg_right (by omega) v2r.1
      exact hJ (q - 1) (by omega) (by omega) hlt' (es.up (by omega) (by omega))
    · exact ⟨⟨q - 1, r + v1, rfl, rfl, by omega, by omega, by omega, by omega, hqr', hlt'⟩, by simp only; omega⟩
end
end Go.Proofs.YtgnclfejnndicaaGreatDoor
/-
  Plain: what the first digits say of a number (for the estimate of a quotient's digit); steps of Euclid's algorithm found from the first words (Lehmer, Collins).
-/
namespace Go.Proofs.YtgnclfejnndicaaGreatDoor
open Go

theorem val_take_succ2 (B : Int) (xs : List Int) (i : Nat) : val B (xs.take (i + 1)) = val B (xs.take i) + B ^ i * xs.getD i 0 := by
  by_cases hi : i < xs.length
  · exact val_take_succ B hi
  · rw [List.take_of_length_le (by omega), List.take_of_length_le (by omega)]
    simp [List.getD, List.getElem?_eq_none (Nat.le_of_not_lt hi)]
theorem val_top2 (B : Int) {vs : List Int} {m : Nat} (hn : vs.length = m + 2) : val B vs = (vs.getD (m + 1) 0 * B + vs.getD m 0) * B ^ m + val B (vs.take m) := by
  have h1 := val_take_succ2 B vs (m + 1)
  have h2 := val_take_succ2 B vs m
  rw [show m + 1 + 1 = vs.length by omega, List.take_length] at h1
  rw [h1, h2, Int.pow_succ]
  grind
theorem val_top3 (B : Int) {us : List Int} {m : Nat} (hn : us.length = m + 3) : val B us = ((us.getD (m + 2) 0 * B + us.getD (m + 1) 0) * B + us.getD m 0) * B ^ m + val B (us.take m) := by
  have h1 := val_take_succ2 B us (m + 2)
  have h2 := val_take_succ2 B us (m + 1)
  have h3 := val_take_succ2 B us m
  rw [show m + 2 + 1 = us.length by omega, List.take_length] at h1
  rw [show m + 2 = m + 1 + 1 by omega] at h1
  rw [h1, h2, h3, Int.pow_succ, Int.pow_succ]
  grind
theorem est_of {B : Int} (hB : 1 < B) {us vs : List Int} {m : Nat} (du : Dig B us) (dv : Dig B vs) (hu : us.length = m + 3) (hv : vs.length = m + 2) (h1 : B ≤ 2 * vs.getD (m + 1) 0) (hlt : val B us < val B vs * B) :
    Est B (B ^ m) (us.getD (m + 2) 0 * B + us.getD (m + 1) 0) (us.getD m 0) (val B (us.take m)) (vs.getD (m + 1) 0) (vs.getD m 0) (val B (vs.take m)) (val B us) (val B vs) := by
  have hB0 : 0 < B := by omega
  have hlu := val_lt hB0 (du.take m)
  have hlv := val_lt hB0 (dv.take m)
  rw [List.length_take, Nat.min_eq_left (by omega)] at hlu hlv
  refine ⟨hB, Int.pow_pos hB0, val_top3 B hu, val_top2 B hv, du.getD hB0 _, ⟨val_nonneg hB0 (du.take m), hlu⟩, dv.getD hB0 _, ⟨val_nonneg hB0 (dv.take m), hlv⟩, ?_, ⟨h1, (dv.getD hB0 _).2⟩, hlt⟩
  have := Int.mul_nonneg (du.getD hB0 (m + 2)).1 (Int.le_of_lt hB0)
  have := (du.getD hB0 (m + 1)).1
  omega
/-- the greatest digit is an estimate where the first digits do not differ -/
theorem Est.top {B P top u2 ul v1 v2 vl U V : Int} (e : Est B P top u2 ul v1 v2 vl U V) (h : v1 * B ≤ top) : (B - 1 - 1) * V ≤ U ∧ U < (B - 1 + 1) * V := by
  have hl := e.lt
  obtain ⟨hB, hP, hU, hV, u2r, ulr, v2r, vlr, top0, v1r, lt⟩ := e
  constructor
  · have h1 : v1 * B * B * P ≤ U := by
      have h2 : v1 * B * B ≤ top * B := Int.mul_le_mul_of_nonneg_right h (by omega)
      have h3 : v1 * B * B * P ≤ (top * B + u2) * P := Int.mul_le_mul_of_nonneg_right (by omega) (by omega)
      omega
    have h2 : V ≤ (v1 + 1) * B * P := by
      have h3 : (v2 + 1) * P ≤ B * P := Int.mul_le_mul_of_nonneg_right (by omega) (by omega)
      have : V = v1 * B * P + v2 * P + vl := by rw [hV]; grind
      have : (v1 + 1) * B * P = v1 * B * P + B * P := by grind
      have : (v2 + 1) * P = v2 * P + P := by grind
      omega
    have h3 : (B - 1 - 1) * V ≤ (B - 1 - 1) * ((v1 + 1) * B * P) := Int.mul_le_mul_of_nonneg_left h2 (by omega)
    have h4 : (B - 1 - 1) * ((v1 + 1) * B * P) = v1 * B * B * P - (2 * v1 + 2 - B) * (B * P) := by grind
    have h5 : 0 ≤ (2 * v1 + 2 - B) * (B * P) := Int.mul_nonneg (by omega) (Int.mul_nonneg (by omega) (by omega))
    omega
  · rw [Int.sub_add_cancel, Int.mul_comm]; exact hl

/-- what several steps of Euclid's algorithm have made of F and S -/
structure LS (F S first second u0 v0 u1 v1 u2 v2 : Int) (odd : Bool) : Prop where
  hF : F = v2 * first + v1 * second
  hS : S = u2 * first + u1 * second
  det : u1 * v2 - u2 * v1 = if odd then -1 else 1
  ord : 0 ≤ second ∧ second ≤ first
  st : (u0 = 0 ∧ v0 = 0 ∧ u1 = 1 ∧ v1 = 0 ∧ u2 = 0 ∧ v2 = 1) ∨
    (((u0 = 1 ∧ v0 = 0 ∧ u1 = 0 ∧ v1 = 1 ∧ 0 ≤ u2 ∧ u2 ≤ v2 ∧ 1 ≤ u2) ∨ (0 ≤ u0 ∧ u0 ≤ v0 ∧ 1 ≤ v0 ∧ 1 ≤ u1 ∧ u1 ≤ v1 ∧ 1 ≤ u2 ∧ u2 ≤ v2)) ∧
      (u0 * v1 - u1 * v0 = if odd then 1 else -1) ∧ ∃ f0, F = v1 * f0 + v0 * first ∧ S = u1 * f0 + u0 * first ∧ v0 + v1 ≤ f0 - first ∧ v1 ≤ first)
theorem LS.init {F S : Int} (h0 : 0 ≤ S) (h : S ≤ F) : LS F S F S 0 0 1 0 0 1 false :=
  ⟨by omega, by omega, by simp, ⟨h0, h⟩, .inl ⟨rfl, rfl, rfl, rfl, rfl, rfl⟩⟩
theorem LS.v2pos {F S first second u0 v0 u1 v1 u2 v2 : Int} {odd : Bool} (l : LS F S first second u0 v0 u1 v1 u2 v2 odd) : 1 ≤ v2 ∧ 0 ≤ v1 ∧ 0 ≤ u1 ∧ 0 ≤ u2 ∧ 0 ≤ u0 ∧ 0 ≤ v0 := by
  obtain ⟨hF, hS, det, ord, st⟩ := l
  rcases st with st | ⟨st, _⟩ <;> omega
/-- a step -/
theorem LS.step {F S first second u0 v0 u1 v1 u2 v2 : Int} {odd : Bool} (l : LS F S first second u0 v0 u1 v1 u2 v2 odd) (h1 : v2 ≤ second) (h2 : v1 + v2 ≤ first - second) :
    LS F S second (first % second) u1 v1 u2 v2 (u1 + first / second * u2) (v1 + first / second * v2) (!odd) := by
  have hp := l.v2pos
  obtain ⟨hF, hS, det, ord, st⟩ := l
  have hs : 0 < second := by omega
  have hq : 1 ≤ first / second := by
    rw [Int.le_ediv_iff_mul_le hs]; omega
  have hdm := Int.mul_ediv_add_emod first second
  have hm0 := Int.emod_nonneg first (show second ≠ 0 by omega)
  have hm1 := Int.emod_lt_of_pos first hs
  have hu : u2 ≤ first / second * u2 := by
    have := Int.mul_le_mul_of_nonneg_right hq (show 0 ≤ u2 by omega); omega
  have hv : v2 ≤ first / second * v2 := by
    have := Int.mul_le_mul_of_nonneg_right hq (show 0 ≤ v2 by omega); omega
  have huv : first / second * u2 ≤ first / second * v2 := Int.mul_le_mul_of_nonneg_left (by omega) (by omega)
  refine ⟨?_, ?_, ?_, ⟨hm0, by omega⟩, .inr ⟨?_, ?_, first, ?_, ?_, by omega, h1⟩⟩
  · rw [hF]
    generalize hq' : first / second = q at *
    generalize first % second = r at *
    subst hdm
    grind
  · rw [hS]
    generalize hq' : first / second = q at *
    generalize first % second = r at *
    subst hdm
    grind
  · cases odd <;> simp at det ⊢ <;> grind
  · rcases st with st | ⟨st, _⟩
    · left
      obtain ⟨rfl, rfl, rfl, rfl, rfl, rfl⟩ := st
      omega
    · right; omega
  · cases odd <;> simp at det ⊢ <;> omega
  · rw [hF]
  · rw [hS]
/-- the coefficients are no greater than F -/
theorem LS.bound {F S first second u0 v0 u1 v1 u2 v2 : Int} {odd : Bool} (l : LS F S first second u0 v0 u1 v1 u2 v2 odd) (hf : 1 ≤ first) : v2 ≤ F ∧ u2 ≤ F ∧ u2 ≤ v2 := by
  have hp := l.v2pos
  obtain ⟨hF, hS, det, ord, st⟩ := l
  have h1 : v2 * 1 ≤ v2 * first := Int.mul_le_mul_of_nonneg_left hf (by omega)
  have h2 : 0 ≤ v1 * second := Int.mul_nonneg (by omega) (by omega)
  clear det hS
  rcases st with st | ⟨st, _⟩ <;> omega
theorem LS.bound2 {F S first second u0 v0 u1 v1 u2 v2 : Int} {odd : Bool} (l : LS F S first second u0 v0 u1 v1 u2 v2 odd) (hs : 1 ≤ second) : v1 + v2 ≤ F := by
  have hp := l.v2pos
  obtain ⟨hF, hS, det, ord, st⟩ := l
  have h1 : v2 * 1 ≤ v2 * first := Int.mul_le_mul_of_nonneg_left (by omega) (by omega)
  have h2 : v1 * 1 ≤ v1 * second := Int.mul_le_mul_of_nonneg_left hs (by omega)
  clear st
  omega
/-- what the steps make of the whole numbers -/
structure Leh (a b u0 v0 u1 v1 X0 X1 : Int) : Prop where
  ord : 0 ≤ X1 ∧ X1 < X0
  ha : a = v1 * X0 + v0 * X1
  hb : b = u1 * X0 + u0 * X1
  le : X0 ≤ b
def lehX0 (a b u0 v0 : Int) (odd : Bool) : Int := if odd then u0 * a - v0 * b else v0 * b - u0 * a
def lehX1 (a b u1 v1 : Int) (odd : Bool) : Int := if odd then v1 * b - u1 * a else u1 * a - v1 * b
theorem LS.leh {F S first second u0 v0 u1 v1 u2 v2 a b al bl W : Int} {odd : Bool} (l : LS F S first second u0 v0 u1 v1 u2 v2 odd) (hv0 : v0 ≠ 0) (hW : 0 < W) (ha : a = F * W + al) (hb : b = S * W + bl) (hal : 0 ≤ al ∧ al < W) (hbl : 0 ≤ bl ∧ bl < W) :
    Leh a b u0 v0 u1 v1 (lehX0 a b u0 v0 odd) (lehX1 a b u1 v1 odd) := by
  have hp := l.v2pos
  obtain ⟨hF, hS, det, ord, st⟩ := l
  rcases st with st | ⟨st, det0, f0, hF0, hS0, hd, hf1⟩
  · omega
  have st2 : 0 ≤ u0 ∧ u0 ≤ v0 ∧ 1 ≤ v0 ∧ 1 ≤ u1 ∧ u1 ≤ v1 := by omega
  have e1 : u0 * F - v0 * S = (u0 * v1 - u1 * v0) * f0 := by rw [hF0, hS0]; grind
  have e2 : u1 * F - v1 * S = (u1 * v0 - u0 * v1) * first := by rw [hF0, hS0]; grind
  have p1 : first * W ≥ v1 * W := Int.mul_le_mul_of_nonneg_right hf1 (by omega)
  have p2 : (f0 - first) * W ≥ (v0 + v1) * W := Int.mul_le_mul_of_nonneg_right hd (by omega)
  have q1 : v1 * bl ≤ v1 * W := Int.mul_le_mul_of_nonneg_left (by omega) (by omega)
  have q2 : u1 * al ≤ u1 * W := Int.mul_le_mul_of_nonneg_left (by omega) (by omega)
  have q3 : u1 * W ≤ v1 * W := Int.mul_le_mul_of_nonneg_right (by omega) (by omega)
  have q4 : 0 ≤ u1 * al := Int.mul_nonneg (by omega) (by omega)
  have q5 : 0 ≤ v1 * bl := Int.mul_nonneg (by omega) (by omega)
  have q6 : (v0 + v1) * (bl + 1) ≤ (v0 + v1) * W := Int.mul_le_mul_of_nonneg_left (by omega) (by omega)
  have q7 : (u0 + u1) * (al + 1) ≤ (u0 + u1) * W := Int.mul_le_mul_of_nonneg_left (by omega) (by omega)
  have q8 : (u0 + u1) * W ≤ (v0 + v1) * W := Int.mul_le_mul_of_nonneg_right (by omega) (by omega)
  have q9 : 0 ≤ (u0 + u1) * al := Int.mul_nonneg (by omega) (by omega)
  have q10 : 0 ≤ (v0 + v1) * bl := Int.mul_nonneg (by omega) (by omega)
  have fin : ∀ X0 X1 : Int, 0 ≤ X1 → X1 < X0 → b = u1 * X0 + u0 * X1 → X0 ≤ b := by
    intro X0 X1 h0 h1 e
    have r1 : 1 * X0 ≤ u1 * X0 := Int.mul_le_mul_of_nonneg_right (by omega) (by omega)
    have r2 : 0 ≤ u0 * X1 := Int.mul_nonneg (by omega) h0
    omega
  cases odd with
  | true =>
    simp only [lehX0, lehX1, if_true] at det0 ⊢
    have x1 : v1 * b - u1 * a = first * W + v1 * bl - u1 * al := by
      rw [det0.symm.symm] at e1
      have : v1 * S - u1 * F = first := by
        have : u1 * v0 - u0 * v1 = -1 := by omega
        rw [this] at e2; omega
      rw [ha, hb, ← this]; grind
    have x01 : u0 * a - v0 * b - (v1 * b - u1 * a) = (f0 - first) * W + (u0 + u1) * al - (v0 + v1) * bl := by
      have t1 : u0 * F - v0 * S = f0 := by rw [det0] at e1; omega
      have t2 : v1 * S - u1 * F = first := by
        have : u1 * v0 - u0 * v1 = -1 := by omega
        rw [this] at e2; omega
      rw [ha, hb, ← t1, ← t2]; grind
    have hX1 : 0 ≤ v1 * b - u1 * a := by omega
    have hX01 : v1 * b - u1 * a < u0 * a - v0 * b := by
      have : (v0 + v1) * (bl + 1) = (v0 + v1) * bl + (v0 + v1) := by grind
      omega
    have ea : a = v1 * (u0 * a - v0 * b) + v0 * (v1 * b - u1 * a) := by
      have : v1 * (u0 * a - v0 * b) + v0 * (v1 * b - u1 * a) = (u0 * v1 - u1 * v0) * a := by grind
      rw [this, det0]; omega
    have eb : b = u1 * (u0 * a - v0 * b) + u0 * (v1 * b - u1 * a) := by
      have : u1 * (u0 * a - v0 * b) + u0 * (v1 * b - u1 * a) = (u0 * v1 - u1 * v0) * b := by grind
      rw [this, det0]; omega
    exact ⟨⟨hX1, hX01⟩, ea, eb, fin _ _ hX1 hX01 eb⟩
  | false =>
    simp only [lehX0, lehX1, Bool.false_eq_true, if_false] at det0 ⊢
    have t1 : v0 * S - u0 * F = f0 := by rw [det0] at e1; omega
    have t2 : u1 * F - v1 * S = first := by
      have : u1 * v0 - u0 * v1 = 1 := by omega
      rw [this] at e2; omega
    have x1 : u1 * a - v1 * b = first * W + u1 * al - v1 * bl := by
      rw [ha, hb, ← t2]; grind
    have x01 : v0 * b - u0 * a - (u1 * a - v1 * b) = (f0 - first) * W + (v0 + v1) * bl - (u0 + u1) * al := by
      rw [ha, hb, ← t1, ← t2]; grind
    have hX1 : 0 ≤ u1 * a - v1 * b := by omega
    have hX01 : u1 * a - v1 * b < v0 * b - u0 * a := by
      have : (u0 + u1) * (al + 1) = (u0 + u1) * al + (u0 + u1) := by grind
      omega
    have ea : a = v1 * (v0 * b - u0 * a) + v0 * (u1 * a - v1 * b) := by
      have : v1 * (v0 * b - u0 * a) + v0 * (u1 * a - v1 * b) = (u1 * v0 - u0 * v1) * a := by grind
      have d : u1 * v0 - u0 * v1 = 1 := by omega
      rw [this, d]; omega
    have eb : b = u1 * (v0 * b - u0 * a) + u0 * (u1 * a - v1 * b) := by
      have : u1 * (v0 * b - u0 * a) + u0 * (u1 * a - v1 * b) = (u1 * v0 - u0 * v1) * b := by grind
      have d : u1 * v0 - u0 * v1 = 1 := by omega
      rw [this, d]; omega
    exact ⟨⟨hX1, hX01⟩, ea, eb, fin _ _ hX1 hX01 eb⟩
/-- the steps keep the greatest common divisor -/
theorem Leh.gcd {a b u0 v0 u1 v1 : Int} {odd : Bool} (l : Leh a b u0 v0 u1 v1 (lehX0 a b u0 v0 odd) (lehX1 a b u1 v1 odd)) : Int.gcd (lehX0 a b u0 v0 odd) (lehX1 a b u1 v1 odd) = Int.gcd a b := by
  apply Nat.dvd_antisymm
  · have ha := l.ha
    have hb := l.hb
    generalize lehX0 a b u0 v0 odd = p at *
    generalize lehX1 a b u1 v1 odd = q at *
    have dp : (Int.gcd p q : Int) ∣ p := Int.gcd_dvd_left p q
    have dq : (Int.gcd p q : Int) ∣ q := Int.gcd_dvd_right p q
    rw [← Int.ofNat_dvd]
    apply Int.dvd_coe_gcd
    · rw [ha]; exact Int.dvd_add (Int.dvd_mul_of_dvd_right dp) (Int.dvd_mul_of_dvd_right dq)
    · rw [hb]; exact Int.dvd_add (Int.dvd_mul_of_dvd_right dp) (Int.dvd_mul_of_dvd_right dq)
  · have da : (Int.gcd a b : Int) ∣ a := Int.gcd_dvd_left a b
    have db : (Int.gcd a b : Int) ∣ b := Int.gcd_dvd_right a b
    rw [← Int.ofNat_dvd]
    apply Int.dvd_coe_gcd
    · unfold lehX0; split
      · exact Int.dvd_sub (Int.dvd_mul_of_dvd_right da) (Int.dvd_mul_of_dvd_right db)
      · exact Int.dvd_sub (Int.dvd_mul_of_dvd_right db) (Int.dvd_mul_of_dvd_right da)
    · unfold lehX1; split
      · exact Int.dvd_sub (Int.dvd_mul_of_dvd_right db) (Int.dvd_mul_of_dvd_right da)
      · exact Int.dvd_sub (Int.dvd_mul_of_dvd_right da) (Int.dvd_mul_of_dvd_right db)
end Go.Proofs.YtgnclfejnndicaaGreatDoor
/-
  divMag: one digit of the quotient: subtract the product, add back if that was too much.
-/
namespace Go.Proofs.YtgnclfejnndicaaGreatDoor
open Go
set_option maxRecDepth 20000

theorem getD_app (pre ws : List Int) (i : Nat) : (pre ++ ws).getD (i + pre.length) 0 = ws.getD i 0 := by
  simp [List.getD, List.getElem?_append_right (Nat.le_add_left pre.length i)]
theorem set_app (pre ws : List Int) (i : Nat) (v : Int) : (pre ++ ws).set (i + pre.length) v = pre ++ ws.set i v := by
  rw [List.set_append_right _ _ (by omega), Nat.add_sub_cancel]
theorem val_zero_of_lt {B : Int} (hB : 0 < B) {ws : List Int} {n : Nat} (d : Dig B ws) (h : val B ws < B ^ n) : val B (ws.drop n) = 0 := by
  by_cases hn : n ≤ ws.length
  · have h1 := val_split B ws hn
    have h2 := val_nonneg hB (d.take n)
    have h3 := val_nonneg hB (d.drop n)
    by_cases h0 : val B (ws.drop n) = 0
    · exact h0
    · have : B ^ n * 1 ≤ B ^ n * val B (ws.drop n) := Int.mul_le_mul_of_nonneg_left (by omega) (Int.le_of_lt (pow_pos' hB n))
      omega
  · rw [List.drop_of_length_le (by omega)]; rfl
theorem Dig.right {B : Int} {xs ys : List Int} (h : Dig B (xs ++ ys)) : Dig B ys := fun x hx => h x (List.mem_append_right _ hx)
theorem Dig.left {B : Int} {xs ys : List Int} (h : Dig B (xs ++ ys)) : Dig B xs := fun x hx => h x (List.mem_append_left _ hx)
section
variable {g : Heap} {bu bq : Nat} {pre qs : List Int} {VA : Option Addr} {vs : List Int}
/-- adding back -/
theorem back_loop {n N : Nat} {ws : List Int} {q : Int} {J : List Value → Heap → Prop} (hu : g bu = none) (hq : g bq = none) (hne : bu ≠ bq) (sv : SlI .u32 g VA vs) (dv : Dig b32 vs) (hn : n = vs.length) (dw : Dig b32 ws) (hN : N = (pre ++ ws).length) (hl : n < ws.length) (hbig : N ≤ 200000000)
    (hD : val b32 (ws.take n) + val b32 vs < 2 * b32 ^ n) (hD0 : b32 ^ n ≤ val b32 (ws.take n) + val b32 vs) (htop : ws.getD n 0 = 4294967295)
    (hJ : ∀ ws', ws'.length = ws.length → Dig b32 ws' → ws'.drop (n + 1) = ws.drop (n + 1) → ws'.getD n 0 = 0 → val b32 (ws'.take n) = val b32 (ws.take n) + val b32 vs - b32 ^ n → J [U (wu64 (q - 1))] (blk2 .u32 ty_tU32s_e g bu (pre ++ ws') bq qs)) :
    NDivMagL39 Tryz.prog VA n (some ⟨bu, 0, none⟩) N (pre.length : Int) q J (blk2 .u32 ty_tU32s_e g bu (pre ++ ws) bq qs) := by
  unfold NDivMagL39
  refine ⟨fun l h' => ∃ (k : Nat) (c : Int) (zs : List Int), l = [U c, I k] ∧ k ≤ n ∧ zs.length = ws.length ∧ Dig b32 zs ∧ (0 ≤ c ∧ c ≤ 1) ∧ h' = blk2 .u32 ty_tU32s_e g bu (pre ++ zs) bq qs ∧ zs.drop k = ws.drop k ∧ val b32 (zs.take k) + c * b32 ^ k = val b32 (ws.take k) + val b32 (vs.take k), fun l _ => n - (iAt l 1).toNat, ⟨0, 0, ws, rfl, by omega, rfl, dw, by omega, rfl, rfl, by simp [val]⟩, ?_⟩
  rintro c i hp ⟨k, c', zs, hli, hk, hzl, hd, hc, rfl, hdr, hv⟩
  obtain ⟨rfl, rfl⟩ : c = c' ∧ i = (k : Int) := by simpa using hli
  have hle : g.le (blk2 .u32 ty_tU32s_e g bu (pre ++ zs) bq qs) := blk2_le hu hq hne
  have su : SlI .u32 (blk2 .u32 ty_tU32s_e g bu (pre ++ zs) bq qs) (some ⟨bu, 0, none⟩) (pre ++ zs) := blk2_u hne
  have hNz : N = (pre ++ zs).length := by rw [hN, List.length_append, List.length_append, hzl]
  have hNl : N = pre.length + zs.length := by rw [hNz, List.length_append]
  have ejk : wi64 ((k : Int) + pre.length) = ((k + pre.length : Nat) : Int) := by rw [wi64_id (by omega) (by omega)]; omega
  have ejn : wi64 ((pre.length : Int) + n) = ((n + pre.length : Nat) : Int) := by rw [wi64_id (by omega) (by omega)]; omega
  refine Br.dec (fun h1 => ?_) (fun h1 => ?_)
  · have gv := dig32 dv k
    have gz := dig32 hd k
    have hzz := getD_drop_eq hdr
    have vv := val_take_succ' b32 vs k
    have vw := val_take_succ' b32 ws k
    rw [ejk]
    refine su.load hNz (by omega) (by omega) ?_
    refine (sv.mono hle).load hn (by omega) (by omega) ?_
    simp only [Int.toNat_natCast, getD_app]
    have es : wu64 (c + wu64 (wu64 (zs.getD k 0) + wu64 (vs.getD k 0))) = c + zs.getD k 0 + vs.getD k 0 := by
      rw [wu64_id (n := zs.getD k 0) (by omega) (by omega), wu64_id (n := vs.getD k 0) (by omega) (by omega), wu64_id (n := zs.getD k 0 + vs.getD k 0) (by omega) (by omega), wu64_id (by omega) (by omega)]; omega
    rw [es]
    refine ⟨_, rfl, by omega, by omega, ?_⟩
    refine blk2_storeU (us := pre ++ zs) (i := ((k + pre.length : Nat) : Int)) tU32s_one hne (by rw [Int.toNat_natCast]; omega) ?_
    rw [Int.toNat_natCast, set_app, wu32_mod, shr32, wi64_id (n := (k : Int) + 1) (by omega) (by omega)]
    refine ⟨⟨k + 1, _, zs.set k ((c + zs.getD k 0 + vs.getD k 0) % 4294967296), rfl, by omega, by simpa using hzl, hd.set (mod32 _), by omega, rfl, ?_, ?_⟩, by simp only [iAt, List.getElem?_cons_zero, List.getElem?_cons_succ]; omega⟩
    · rw [drop_set_lt (by omega)]; exact drop_succ_eq hdr
    · rw [take_set_succ (by omega), val_snoc, List.length_take, Nat.min_eq_left (by omega), Int.pow_succ, carry_step, vv, vw, ← hzz]
      grind
  · have hkn : k = n := by omega
    subst hkn
    have hzz := getD_drop_eq hdr
    rw [ejn]
    refine su.load hNz (by omega) (by omega) ?_
    rw [Int.toNat_natCast, getD_app, hzz, htop]
    refine ⟨_, rfl, by omega, by omega, ?_⟩
    refine blk2_storeU (us := pre ++ zs) (i := ((k + pre.length : Nat) : Int)) tU32s_one hne (by rw [Int.toNat_natCast]; omega) ?_
    rw [Int.toNat_natCast, set_app]
    have hvs : vs.take k = vs := by rw [hn, List.take_length]
    rw [hvs] at hv
    have hlt := val_lt (by decide) (hd.take k)
    rw [List.length_take, Nat.min_eq_left (by omega)] at hlt
    have h0 := val_nonneg (by decide) (hd.take k)
    have hc1 : c = 1 := by
      by_cases hc0 : c = 0
      · subst hc0; omega
      · omega
    subst hc1
    have e0 : wu32 (4294967295 + wu32 1) = 0 := by rw [wu32_id (n := 1) (by omega) (by omega), wu32_mod]; omega
    rw [e0]
    refine hJ (zs.set k 0) (by simpa using hzl) (hd.set (by decide)) (by rw [drop_set_lt (by omega)]; exact drop_succ_eq hdr) (by simp [List.getD, show k < zs.length by omega]) ?_
    rw [List.take_set_of_le (by omega)]
    omega
/-- one digit -/
theorem digit_loop {n N nq : Nat} {ws : List Int} {q X Y : Int} {J : List Value → Heap → Prop} (hu : g bu = none) (hq : g bq = none) (hne : bu ≠ bq) (sv : SlI .u32 g VA vs) (dv : Dig b32 vs) (hn : n = vs.length) (dw : Dig b32 ws) (hN : N = (pre ++ ws).length) (hl : n < ws.length) (hbig : N ≤ 200000000)
    (hnq : nq = qs.length) (hjq : pre.length < qs.length)
    (hX : X = val b32 (ws.take n) + b32 ^ n * ws.getD n 0) (hY : Y = val b32 vs) (hq0 : 0 ≤ q) (hq1 : q ≤ 4294967296) (hlt : X < (q + 1) * Y) (hge : (q - 1) * Y ≤ X) (hXB : X < Y * 4294967296)
    (hJ : ∀ ws' q', ws'.length = ws.length → Dig b32 ws' → ws'.drop (n + 1) = ws.drop (n + 1) → ws'.getD n 0 = 0 → val b32 (ws'.take n) = X - q' * Y → 0 ≤ X - q' * Y → X - q' * Y < Y → 0 ≤ q' → q' < 4294967296 → J [] (blk2 .u32 ty_tU32s_e g bu (pre ++ ws') bq (qs.set pre.length q'))) :
    NDivMagL26 Tryz.prog VA n (some ⟨bu, 0, none⟩) N (some ⟨bq, 0, none⟩) nq (pre.length : Int) J q (blk2 .u32 ty_tU32s_e g bu (pre ++ ws) bq qs) := by
  have hYlt : Y < b32 ^ n := by rw [hY, hn]; exact val_lt (by decide) dv
  have hX0 : 0 ≤ X := by
    have h1 := val_nonneg (by decide) (dw.take n)
    have h2 := Int.mul_nonneg (Int.le_of_lt (pow_pos' (B := b32) (by decide) n)) (dig32 dw n).1
    omega
  have hY0 : 0 < Y := by
    by_cases h0 : 0 < Y
    · exact h0
    · have : Y = 0 := by have := val_nonneg (by decide) dv; omega
      rw [this] at hXB; omega
  -- what is done with a digit that is right
  have fin : ∀ ws' q', ws'.length = ws.length → Dig b32 ws' → ws'.drop (n + 1) = ws.drop (n + 1) → ws'.getD n 0 = 0 → val b32 (ws'.take n) = X - q' * Y → 0 ≤ X - q' * Y → X - q' * Y < Y → 0 ≤ q' → NDivMagC45 Tryz.prog (some ⟨bq, 0, none⟩) nq (pre.length : Int) J q' (blk2 .u32 ty_tU32s_e g bu (pre ++ ws') bq qs) := by
    intro ws' q' h1 h2 h3 h4 h5 h6 h7 h8
    have hlt' : q' < 4294967296 := by
      by_cases hc : q' < 4294967296
      · exact hc
      · have := Int.mul_le_mul_of_nonneg_right (show 4294967296 ≤ q' by omega) (Int.le_of_lt hY0)
        rw [Int.mul_comm Y] at hXB; omega
    unfold NDivMagC45
    refine ⟨_, rfl, by omega, by omega, ?_⟩
    refine blk2_storeQ (i := (pre.length : Int)) tU32s_one (by rw [Int.toNat_natCast]; omega) ?_
    rw [Int.toNat_natCast, wu32_id h8 (by omega)]
    exact hJ ws' q' h1 h2 h3 h4 h5 h6 h7 h8 hlt'
  unfold NDivMagL26
  refine ⟨fun l h' => ∃ (k : Nat) (c b : Int) (zs : List Int), l = [U c, U b, I k] ∧ k ≤ n ∧ zs.length = ws.length ∧ Dig b32 zs ∧ (0 ≤ c ∧ c < 4294967296) ∧ (0 ≤ b ∧ b ≤ 1) ∧ h' = blk2 .u32 ty_tU32s_e g bu (pre ++ zs) bq qs ∧ zs.drop k = ws.drop k ∧ val b32 (zs.take k) = val b32 (ws.take k) - q * val b32 (vs.take k) + (c + b) * b32 ^ k, fun l _ => n - (iAt l 2).toNat, ⟨0, 0, 0, ws, rfl, by omega, rfl, dw, by omega, by omega, rfl, rfl, by simp [val]⟩, ?_⟩
  rintro c b i hp ⟨k, c', b', zs, hli, hk, hzl, hd, hc, hb, rfl, hdr, hv⟩
  obtain ⟨rfl, rfl, rfl⟩ : c = c' ∧ b = b' ∧ i = (k : Int) := by simpa using hli
  have hle : g.le (blk2 .u32 ty_tU32s_e g bu (pre ++ zs) bq qs) := blk2_le hu hq hne
  have su : SlI .u32 (blk2 .u32 ty_tU32s_e g bu (pre ++ zs) bq qs) (some ⟨bu, 0, none⟩) (pre ++ zs) := blk2_u hne
  have hNz : N = (pre ++ zs).length := by rw [hN, List.length_append, List.length_append, hzl]
  have hNl : N = pre.length + zs.length := by rw [hNz, List.length_append]
  have ejk : wi64 ((k : Int) + pre.length) = ((k + pre.length : Nat) : Int) := by rw [wi64_id (by omega) (by omega)]; omega
  have ejn : wi64 ((pre.length : Int) + n) = ((n + pre.length : Nat) : Int) := by rw [wi64_id (by omega) (by omega)]; omega
  refine Br.dec (fun h1 => ?_) (fun h1 => ?_)
  · have gv := dig32 dv k
    have gz := dig32 hd k
    have hzz := getD_drop_eq hdr
    have vv := val_take_succ' b32 vs k
    have vw := val_take_succ' b32 ws k
    refine (sv.mono hle).load hn (by omega) (by omega) ?_
    rw [ejk]
    refine su.load hNz (by omega) (by omega) ?_
    simp only [Int.toNat_natCast, getD_app]
    have hm : 0 ≤ q * vs.getD k 0 ∧ q * vs.getD k 0 ≤ 4294967296 * 4294967295 := ⟨Int.mul_nonneg hq0 gv.1, Int.mul_le_mul hq1 (by omega) gv.1 (by decide)⟩
    have ep : wu64 (wu64 (q * wu64 (vs.getD k 0)) + c) = q * vs.getD k 0 + c := by
      rw [wu64_id (n := vs.getD k 0) (by omega) (by omega), wu64_id (n := q * vs.getD k 0) (by omega) (by omega), wu64_id (by omega) (by omega)]
    rw [ep, band_low32 (by omega), shr32, shr32, wu64_id (n := zs.getD k 0) (by omega) (by omega)]
    generalize hP : q * vs.getD k 0 + c = p at *
    have hp2 : 0 ≤ p ∧ p < 18446744073709551616 := by omega
    have ed : wu64 (wu64 (zs.getD k 0 - p % 4294967296) - b) = (zs.getD k 0 - p % 4294967296 - b) % 18446744073709551616 := by
      rw [wu64_mod, wu64_mod]; omega
    rw [ed, band_one64 (by omega)]
    refine ⟨_, rfl, by omega, by omega, ?_⟩
    refine blk2_storeU (us := pre ++ zs) (i := ((k + pre.length : Nat) : Int)) tU32s_one hne (by rw [Int.toNat_natCast]; omega) ?_
    rw [Int.toNat_natCast, set_app, wu32_mod, wi64_id (n := (k : Int) + 1) (by omega) (by omega)]
    refine ⟨⟨k + 1, _, _, zs.set k ((zs.getD k 0 - p % 4294967296 - b) % 18446744073709551616 % 4294967296), rfl, by omega, by simpa using hzl, hd.set (mod32 _), by omega, by omega, rfl, ?_, ?_⟩, by simp only [iAt, List.getElem?_cons_zero, List.getElem?_cons_succ]; omega⟩
    · rw [drop_set_lt (by omega)]; exact drop_succ_eq hdr
    · rw [take_set_succ (by omega), val_snoc, List.length_take, Nat.min_eq_left (by omega), Int.pow_succ, vv, vw, ← hzz, hv]
      have key : (zs.getD k 0 - p % 4294967296 - b) % 18446744073709551616 % 4294967296 = zs.getD k 0 - p - b + 4294967296 * (p / 4294967296 + (zs.getD k 0 - p % 4294967296 - b) % 18446744073709551616 / 4294967296 % 2) := by omega
      rw [key, ← hP]
      grind
  · have hkn : k = n := by omega
    subst hkn
    have hzz := getD_drop_eq hdr
    have gz := dig32 hd k
    have hvs : vs.take k = vs := by rw [hn, List.take_length]
    rw [hvs, ← hY] at hv
    have hl2 := val_lt (by decide) (hd.take k)
    rw [List.length_take, Nat.min_eq_left (by omega)] at hl2
    have hl0 := val_nonneg (by decide) (hd.take k)
    rw [ejn]
    refine su.load hNz (by omega) (by omega) ?_
    rw [Int.toNat_natCast, getD_app]
    -- D = low + delta * B^n
    have hD : X - q * Y = val b32 (zs.take k) + (zs.getD k 0 - c - b) * b32 ^ k := by
      rw [hv, hX, hzz]; grind
    have hDlt : X - q * Y < Y := by
      have : (q + 1) * Y = q * Y + Y := by grind
      omega
    have hDge : -Y ≤ X - q * Y := by
      have : (q - 1) * Y = q * Y - Y := by grind
      omega
    have hP : 0 < b32 ^ k := pow_pos' (by decide) k
    have hdel : zs.getD k 0 - c - b = 0 ∨ zs.getD k 0 - c - b = -1 := by
      have h2 : zs.getD k 0 - c - b < 1 := by
        by_cases hc : zs.getD k 0 - c - b < 1
        · exact hc
        · have := Int.mul_le_mul_of_nonneg_right (show 1 ≤ zs.getD k 0 - c - b by omega) (Int.le_of_lt hP); omega
      have h3 : -2 < zs.getD k 0 - c - b := by
        by_cases hc : -2 < zs.getD k 0 - c - b
        · exact hc
        · have := Int.mul_le_mul_of_nonneg_right (show zs.getD k 0 - c - b ≤ -2 by omega) (Int.le_of_lt hP); omega
      omega
    have ed : wu64 (wu64 (wu64 (zs.getD k 0) - c) - b) = (zs.getD k 0 - c - b) % 18446744073709551616 := by
      rw [wu64_id (n := zs.getD k 0) (by omega) (by omega), wu64_mod, wu64_mod]; omega
    rw [ed]
    have e63 : ∀ x : Int, Int.fdiv x (2 ^ (min ((63 : Int)).toNat 64)) = x / 9223372036854775808 := by
      intro x; rw [show (2 : Int) ^ (min ((63 : Int)).toNat 64) = 9223372036854775808 by decide]; exact Int.fdiv_eq_ediv_of_nonneg x (by decide)
    refine ⟨_, rfl, by omega, by omega, ?_⟩
    refine blk2_storeU (us := pre ++ zs) (i := ((k + pre.length : Nat) : Int)) tU32s_one hne (by rw [Int.toNat_natCast]; omega) ?_
    rw [Int.toNat_natCast, set_app, wu32_mod, e63]
    have hgs : ∀ v, (zs.set k v).getD k 0 = v := by intro v; simp [List.getD, show k < zs.length by omega]
    refine ⟨fun l h' => ∃ ws' q', l = [U q'] ∧ h' = blk2 .u32 ty_tU32s_e g bu (pre ++ ws') bq qs ∧ ws'.length = ws.length ∧ Dig b32 ws' ∧ ws'.drop (k + 1) = ws.drop (k + 1) ∧ ws'.getD k 0 = 0 ∧ val b32 (ws'.take k) = X - q' * Y ∧ 0 ≤ X - q' * Y ∧ X - q' * Y < Y ∧ 0 ≤ q', ?_, ?_⟩
    · rcases hdel with hdel | hdel
      · rw [hdel] at hD ⊢
        refine Br.beq (fun e => absurd e (by decide)) (fun _ => ?_)
        refine ⟨zs.set k (0 % 18446744073709551616 % 4294967296), q, rfl, rfl, by simpa using hzl, hd.set (by decide), by rw [drop_set_lt (by omega)]; exact drop_succ_eq hdr, hgs _, ?_, by omega, hDlt, hq0⟩
        rw [List.take_set_of_le (by omega)]; omega
      · rw [hdel] at hD ⊢
        refine Br.beq (fun _ => ?_) (fun e => absurd (by decide) e)
        have hqpos : 1 ≤ q := by
          by_cases hc : 1 ≤ q
          · exact hc
          · have : q = 0 := by omega
            subst this; omega
        have ht : (zs.set k (-1 % 18446744073709551616 % 4294967296)).take k = zs.take k := List.take_set_of_le (by omega)
        have e1 : (q - 1) * Y = q * Y - Y := by grind
        refine back_loop (ws := zs.set k (-1 % 18446744073709551616 % 4294967296)) hu hq hne sv dv hn (hd.set (by decide)) (by rw [hNz]; simp) (by simpa using (show k < zs.length by omega)) hbig ?_ ?_ (hgs _) ?_
        · rw [ht, ← hY]; omega
        · rw [ht, ← hY]; omega
        · intro ws' g1 g2 g3 g4 g5
          rw [ht, ← hY] at g5
          rw [wu64_id (n := q - 1) (by omega) (by omega)]
          refine ⟨ws', q - 1, rfl, rfl, by rw [g1]; simpa using hzl, g2, ?_, g4, by omega, by omega, by omega, by omega⟩
          rw [g3, drop_set_lt (by omega)]; exact drop_succ_eq hdr
    · rintro q2 hp21 ⟨ws', q', hl1, rfl, g1, g2, g3, g4, g5, g6, g7, g8⟩
      obtain rfl : q2 = q' := by simpa using hl1
      exact fin ws' q2 g1 g2 g3 g4 g5 g6 g7 g8
end
end Go.Proofs.YtgnclfejnndicaaGreatDoor
/-
  divMag: all digits, the remainder shifted back, the whole function.
-/
namespace Go.Proofs.YtgnclfejnndicaaGreatDoor
open Go
set_option maxRecDepth 20000
theorem val_drop' (B : Int) (xs : List Int) (i : Nat) : val B (xs.drop i) = xs.getD i 0 + B * val B (xs.drop (i + 1)) := by
  by_cases hi : i < xs.length
  · exact val_drop B hi
  · rw [List.drop_of_length_le (by omega), List.drop_of_length_le (by omega)]
    simp [val, List.getD, List.getElem?_eq_none (Nat.le_of_not_lt hi)]
theorem two_pow_split {s : Nat} (hs : s ≤ 32) : (2 : Int) ^ s * 2 ^ (32 - s) = 4294967296 := by
  rw [← Int.pow_add, show s + (32 - s) = 32 by omega]; decide
section
variable {h g : Heap} {K : Value → Heap → Prop} {A B : Option Addr} {ac bc : Nat} {bu bq : Nat} {VA : Option Addr} {vs us0 : List Int}
/-- the remainder is shifted back in its place -/
theorem rest_loop {s nq cq rn cr : Nat} {rs tl qs : List Int} {Q R : Int} (hu : g bu = none) (hq : g bq = none) (hne : bu ≠ bq) (hs : s < 32) (hrn : rn = rs.length) (hcr : rn ≤ cr) (hnq : nq = qs.length) (hcq : nq ≤ cq) (dq : Dig b32 qs) (dr : Dig b32 rs) (hb1 : nq ≤ 200000000) (hb2 : rn ≤ 200000000) (hQ : val b32 qs = Q) (hR : val b32 rs = R * 2 ^ s)
    (hK : ∀ A1 m1 c1 A2 m2 c2 h', g.le h' → m1 ≤ c1 → m2 ≤ c2 → Mg h' A1 m1 Q → Mg h' A2 m2 R → K (.tuple #[.slice A1 m1 c1, .slice A2 m2 c2]) h') :
    NDivMagL48 Tryz.prog K (s : Int) (some ⟨bq, 0, none⟩) nq cq (some ⟨bu, 0, none⟩) rn cr (blk2 .u32 ty_tU32s_e g bu (rs ++ tl) bq qs) := by
  have hp : 0 < (2 : Int) ^ s := Int.pow_pos (by decide)
  have hps := two_pow_split (Nat.le_of_lt hs)
  have hpt : 0 < (2 : Int) ^ (32 - s) := Int.pow_pos (by decide)
  unfold NDivMagL48
  refine ⟨fun l h' => ∃ (k : Nat) (zs : List Int), l = [I k] ∧ k ≤ rn ∧ zs.length = rs.length ∧ Dig b32 zs ∧ h' = blk2 .u32 ty_tU32s_e g bu (zs ++ tl) bq qs ∧ zs.drop k = rs.drop k ∧ 2 ^ s * val b32 (zs.take k) + rs.getD 0 0 % 2 ^ s = val b32 (rs.take k) + b32 ^ k * (rs.getD k 0 % 2 ^ s), fun l _ => rn - (iAt l 0).toNat, ⟨0, rs, rfl, by omega, rfl, dr, rfl, rfl, by simp [val]⟩, ?_⟩
  rintro i hp1 ⟨k, zs, hli, hk, hzl, hd, rfl, hdr, hv⟩
  obtain rfl : i = (k : Int) := by simpa using hli
  have su : ∀ zs : List Int, SlI .u32 (blk2 .u32 ty_tU32s_e g bu (zs ++ tl) bq qs) (some ⟨bu, 0, none⟩) zs := by
    intro zs
    have := (blk2_u (g := g) (k := .u32) (e := ty_tU32s_e) (us := zs ++ tl) (qs := qs) hne).cut (c := (zs ++ tl).length) (l := 0) (m := zs.length) (by omega) (by simp) (Nat.le_refl _)
    simpa [cutA_zero] using this
  have ek1 : wi64 ((k : Int) + 1) = ((k + 1 : Nat) : Int) := by rw [wi64_id (by omega) (by omega)]; omega
  have gz := dig32 hd k
  have hzz := getD_drop_eq hdr
  refine Br.dec (fun h1 => ?_) (fun h1 => ?_)
  · refine (su zs).load (by omega) (by omega) (by omega) ?_
    refine Br.dec (fun e => absurd e (by omega)) (fun _ => ?_)
    refine ⟨_, rfl, by omega, by omega, ?_⟩
    simp only [Int.toNat_natCast]
    rw [Nat.min_eq_left (by omega), Int.fdiv_eq_ediv_of_nonneg _ (Int.le_of_lt hp)]
    refine blk2_storeU (us := zs ++ tl) (i := (k : Int)) tU32s_one hne (by rw [Int.toNat_natCast, List.length_append]; omega) ?_
    rw [Int.toNat_natCast, List.set_append_left _ _ (by omega), ek1]
    have hq0 : 0 ≤ zs.getD k 0 / 2 ^ s := Int.ediv_nonneg gz.1 (by omega)
    have hq1 : zs.getD k 0 / 2 ^ s < 2 ^ (32 - s) := by
      apply Int.ediv_lt_of_lt_mul hp
      rw [Int.mul_comm, hps]; exact gz.2
    have hpt2 : (2 : Int) ^ (32 - s) ≤ 4294967296 := by
      rw [← hps]
      have := Int.mul_le_mul_of_nonneg_right (show 1 ≤ (2 : Int) ^ s by omega) (Int.le_of_lt hpt); omega
    have d1 : Dig b32 (zs.set k (zs.getD k 0 / 2 ^ s)) := hd.set ⟨hq0, by show _ < (4294967296 : Int); omega⟩
    have l1 : (zs.set k (zs.getD k 0 / 2 ^ s)).length = rs.length := by rw [List.length_set]; exact hzl
    have g1 : (zs.set k (zs.getD k 0 / 2 ^ s)).getD k 0 = zs.getD k 0 / 2 ^ s := by simp [List.getD, show k < zs.length by omega]
    have g2 : (zs.set k (zs.getD k 0 / 2 ^ s)).getD (k + 1) 0 = rs.getD (k + 1) 0 := by
      rw [set_getD_ne (by omega)]; exact getD_drop_eq (drop_succ_eq hdr)
    have vr := val_take_succ' b32 rs k
    -- the invariant behind a digit
    have fin : ∀ z : Int, (0 ≤ z ∧ z < 4294967296) → 2 ^ s * z = zs.getD k 0 - zs.getD k 0 % 2 ^ s + 4294967296 * (rs.getD (k + 1) 0 % 2 ^ s) →
        2 ^ s * val b32 ((zs.set k z).take (k + 1)) + rs.getD 0 0 % 2 ^ s = val b32 (rs.take (k + 1)) + b32 ^ (k + 1) * (rs.getD (k + 1) 0 % 2 ^ s) := by
      intro z hz ez
      rw [take_set_succ (by omega), val_snoc, List.length_take, Nat.min_eq_left (by omega), vr, Int.pow_succ, ← hzz]
      rw [← hzz] at hv
      have e1 : 2 ^ s * (val b32 (zs.take k) + b32 ^ k * z) = 2 ^ s * val b32 (zs.take k) + b32 ^ k * (2 ^ s * z) := by grind
      rw [e1, ez]
      grind
    have hdm := Int.mul_ediv_add_emod (zs.getD k 0) (2 ^ s)
    refine Br.dec (fun h2 => ?_) (fun h2 => ?_)
    · refine (su _).load (by omega) (by omega) (by omega) ?_
      refine (su _).load (by omega) (by omega) (by omega) ?_
      simp only [Int.toNat_natCast, g1, g2]
      have es : wu64 ((32 : Int) - s) = ((32 - s : Nat) : Int) := by rw [wu64_id (by omega) (by omega)]; omega
      rw [es]
      refine Br.dec (fun e => absurd e (by omega)) (fun _ => ?_)
      refine ⟨_, rfl, by omega, by omega, ?_⟩
      have gr := dig32 dr (k + 1)
      have hx0 : 0 ≤ rs.getD (k + 1) 0 * 2 ^ (32 - s) := Int.mul_nonneg gr.1 (by omega)
      have hx1 : rs.getD (k + 1) 0 * 2 ^ (32 - s) < 18446744073709551616 := by
        have := Int.mul_le_mul (show rs.getD (k + 1) 0 ≤ 4294967295 by omega) hpt2 (by omega) (by decide)
        omega
      rw [Int.toNat_natCast, Nat.min_eq_left (show 32 - s ≤ 64 by omega), wu64_id (n := rs.getD (k + 1) 0) (by omega) (by omega), wu64_id hx0 hx1, wu32_mod]
      obtain ⟨o1, o2⟩ := or_shift (s := 32 - s) (by omega) gr ⟨hq0, hq1⟩
      rw [o1]
      refine blk2_storeU (us := zs.set k (zs.getD k 0 / 2 ^ s) ++ tl) (i := (k : Int)) tU32s_one hne (by rw [Int.toNat_natCast, List.length_append]; omega) ?_
      rw [Int.toNat_natCast, List.set_append_left _ _ (by omega), List.set_set]
      have hm0 := mod32 (rs.getD (k + 1) 0 * 2 ^ (32 - s))
      refine ⟨⟨k + 1, zs.set k (zs.getD k 0 / 2 ^ s + rs.getD (k + 1) 0 * 2 ^ (32 - s) % 4294967296), rfl, by omega, by simpa using hzl, hd.set ⟨by omega, o2⟩, rfl, by rw [drop_set_lt (by omega)]; exact drop_succ_eq hdr, fin _ ⟨by omega, o2⟩ ?_⟩, by simp only [iAt, List.getElem?_cons_zero]; omega⟩
      have em : rs.getD (k + 1) 0 * 2 ^ (32 - s) % 4294967296 = 2 ^ (32 - s) * (rs.getD (k + 1) 0 % 2 ^ s) := by
        rw [← hps, Int.mul_comm (2 ^ s), Int.mul_comm (rs.getD (k + 1) 0), Int.mul_emod_mul_of_pos _ _ hpt]
      rw [em, Int.mul_add, ← Int.mul_assoc, hps]
      omega
    · have hlast : k + 1 = rs.length := by omega
      have e0 : rs.getD (k + 1) 0 = 0 := by simp [List.getD, List.getElem?_eq_none (show rs.length ≤ k + 1 by omega)]
      refine ⟨⟨k + 1, zs.set k (zs.getD k 0 / 2 ^ s), rfl, by omega, l1, d1, rfl, by rw [drop_set_lt (by omega)]; exact drop_succ_eq hdr, fin _ ⟨hq0, by omega⟩ ?_⟩, by simp only [iAt, List.getElem?_cons_zero]; omega⟩
      rw [e0, Int.zero_emod, Int.mul_zero, Int.add_zero]; omega
  · have hkr : k = rs.length := by omega
    subst hkr
    have e0 : rs.getD rs.length 0 = 0 := by simp [List.getD]
    rw [List.take_length, ← hzl, List.take_length, hzl, e0] at hv
    have hvz : val b32 zs = R := by
      have h0 := Int.emod_nonneg (rs.getD 0 0) (show (2 : Int) ^ s ≠ 0 by omega)
      have h1 := Int.emod_lt_of_pos (rs.getD 0 0) hp
      rw [hR] at hv
      simp at hv
      have : 2 ^ s * (R - val b32 zs) = rs.getD 0 0 % 2 ^ s := by
        have : 2 ^ s * (R - val b32 zs) = R * 2 ^ s - 2 ^ s * val b32 zs := by grind
        simp only [List.getD] at *
        omega
      have hz : R - val b32 zs = 0 := by
        by_cases hc : R - val b32 zs ≤ 0
        · by_cases hc2 : R - val b32 zs = 0
          · exact hc2
          · have := Int.mul_le_mul_of_nonneg_left (show R - val b32 zs ≤ -1 by omega) (Int.le_of_lt hp); omega
        · have := Int.mul_le_mul_of_nonneg_left (show 1 ≤ R - val b32 zs by omega) (Int.le_of_lt hp); omega
      omega
    rw [hnq]
    refine trim_mag blk2_q dq (by omega) (by omega) ?_
    intro m1 hm1 hM1
    refine ⟨_, _, _, rfl, ?_⟩
    rw [hrn, ← hzl]
    refine trim_mag (su zs) hd (by omega) (by omega) ?_
    intro m2 hm2 hM2
    rw [hQ] at hM1
    rw [hvz] at hM2
    exact ⟨_, _, _, rfl, hK _ _ _ _ _ _ _ (blk2_le hu hq hne) (by omega) (by omega) hM1 hM2⟩
/-- all digits -/
theorem all_digits {s mm N nq : Nat} {us0 : List Int} {a b Y : Int} (hu : g bu = none) (hq : g bq = none) (hne : bu ≠ bq) (sv : SlI .u32 g VA vs) (dv : Dig b32 vs) (hn : vs.length = mm + 2) (hv1 : 4294967296 ≤ 2 * vs.getD (mm + 1) 0) (hs : s < 32) (hY : val b32 vs = Y) (hYb : Y = b * 2 ^ s) (du : Dig b32 us0) (hN : us0.length = N) (hua : val b32 us0 = a * 2 ^ s) (hnq : N = nq + (mm + 2)) (hnq1 : 1 ≤ nq) (hbig : N ≤ 200000000) (htop : val b32 (us0.drop nq) < Y)
    (hK : ∀ A1 m1 c1 A2 m2 c2 h', g.le h' → m1 ≤ c1 → m2 ≤ c2 → Mg h' A1 m1 (a / b) → Mg h' A2 m2 (a % b) → K (.tuple #[.slice A1 m1 c1, .slice A2 m2 c2]) h') :
    NDivMagL15 Tryz.prog K (s : Int) VA (mm + 2) (some ⟨bu, 0, none⟩) N N (some ⟨bq, 0, none⟩) nq nq (blk2 .u32 ty_tU32s_e g bu us0 bq (List.replicate nq 0)) := by
  have hp : 0 < (2 : Int) ^ s := Int.pow_pos (by decide)
  have hYlt : Y < b32 ^ (mm + 2) := by rw [← hY, ← hn]; exact val_lt (by decide) dv
  have hY0 : 0 < Y := by have := val_nonneg (by decide) (du.drop nq); omega
  have e0 : wi64 (wi64 ((N : Int) - ((mm + 2 : Nat) : Int)) - 1) = (nq : Int) - 1 := by rw [wi64_id (n := (N : Int) - ((mm + 2 : Nat) : Int)) (by omega) (by omega), wi64_id (by omega) (by omega)]; omega
  unfold NDivMagL15
  refine ⟨fun l h' => ∃ (k : Nat) (us qs : List Int), l = [I ((k : Int) - 1)] ∧ k ≤ nq ∧ us.length = N ∧ qs.length = nq ∧ Dig b32 us ∧ Dig b32 qs ∧ h' = blk2 .u32 ty_tU32s_e g bu us bq qs ∧ val b32 (us.drop k) < Y ∧ val b32 us0 = val b32 (qs.drop k) * Y * b32 ^ k + val b32 us, fun l _ => (iAt l 0 + 1).toNat, ⟨nq, us0, _, by rw [e0], by omega, hN, by simp, du, Dig.zeros (by decide) _, rfl, htop, by simp [val]⟩, ?_⟩
  rintro j hp11 ⟨k, us, qs, hli, hk, hul, hql, hdu, hdq, rfl, hlt, hv⟩
  obtain rfl : j = (k : Int) - 1 := by simpa using hli
  have hle : g.le (blk2 .u32 ty_tU32s_e g bu us bq qs) := blk2_le hu hq hne
  have su : SlI .u32 (blk2 .u32 ty_tU32s_e g bu us bq qs) (some ⟨bu, 0, none⟩) us := blk2_u hne
  unfold NDivMagB15
  refine Br.dec (fun h1 => ?_) (fun h1 => ?_)
  · obtain ⟨j, rfl⟩ : ∃ j, k = j + 1 := ⟨k - 1, by omega⟩
    have ej : ((j + 1 : Nat) : Int) - 1 = (j : Int) := by omega
    rw [ej]
    have e1 : wi64 ((j : Int) + ((mm + 2 : Nat) : Int)) = ((j + (mm + 2) : Nat) : Int) := by rw [wi64_id (by omega) (by omega)]; omega
    have e2 : wi64 (((j + (mm + 2) : Nat) : Int) - 1) = ((j + (mm + 1) : Nat) : Int) := by rw [wi64_id (by omega) (by omega)]; omega
    have e3 : wi64 (((mm + 2 : Nat) : Int) - 1) = ((mm + 1 : Nat) : Int) := by rw [wi64_id (by omega) (by omega)]; omega
    rw [e1, e2, e3]
    have dws := hdu.drop j
    have hwl : (us.drop j).length = N - j := by rw [List.length_drop, hul]
    have hgd : ∀ i, (us.drop j).getD i 0 = us.getD (j + i) 0 := fun i => getD_drop
    have hzero : val b32 ((us.drop j).drop (mm + 3)) = 0 := by
      have := val_zero_of_lt (B := b32) (by decide) (n := mm + 2) (hdu.drop (j + 1)) (by omega)
      rw [List.drop_drop] at this ⊢
      rw [show j + (mm + 3) = j + 1 + (mm + 2) by omega]; exact this
    have hX1 := val_drop' b32 us j
    have hXB : val b32 (us.drop j) < Y * 4294967296 := by
      have := dig32 hdu j
      rw [hX1]
      have : b32 * (val b32 (us.drop (j + 1)) + 1) ≤ b32 * Y := Int.mul_le_mul_of_nonneg_left (by omega) (by decide)
      have e : b32 * (val b32 (us.drop (j + 1)) + 1) = b32 * val b32 (us.drop (j + 1)) + 4294967296 := by show (4294967296 : Int) * _ = _; grind
      have e' : Y * 4294967296 = b32 * Y := Int.mul_comm _ _
      omega
    have hsp := val_split b32 (us.drop j) (i := mm + 3) (by omega)
    rw [hzero, Int.mul_zero, Int.add_zero] at hsp
    have hts := val_take_succ2 b32 (us.drop j) (mm + 2)
    have hX : val b32 (us.drop j) = val b32 ((us.drop j).take (mm + 2)) + b32 ^ (mm + 2) * (us.drop j).getD (mm + 2) 0 := by rw [hsp]; exact hts
    have es := est_of (B := b32) (by decide) (us := (us.drop j).take (mm + 3)) (m := mm) (dws.take _) dv (by rw [List.length_take, hwl]; omega) hn hv1 (by rw [← hsp, hY]; exact hXB)
    have gt : ∀ i, i < mm + 3 → ((us.drop j).take (mm + 3)).getD i 0 = us.getD (j + i) 0 := by
      intro i hi
      rw [← hgd]; simp [List.getD, hi]
    rw [gt (mm + 2) (by omega), gt (mm + 1) (by omega), gt mm (by omega), ← hsp, hY] at es
    refine ⟨fun l h' => ∃ us' q', l = [] ∧ h' = blk2 .u32 ty_tU32s_e g bu us' bq (qs.set j q') ∧ us'.length = N ∧ Dig b32 us' ∧ (0 ≤ q' ∧ q' < 4294967296) ∧ val b32 (us'.drop j) < Y ∧ val b32 (us'.drop j) = val b32 (us.drop j) - q' * Y ∧ us'.take j = us.take j, ?_, ?_⟩
    · refine su.load hul.symm (by omega) (by omega) ?_
      refine su.load hul.symm (by omega) (by omega) ?_
      refine (sv.mono hle).load hn.symm (by omega) (by omega) ?_
      simp only [Int.toNat_natCast]
      have hv1' := dig32 dv (mm + 1)
      have ew : wu64 (vs.getD (mm + 1) 0) = vs.getD (mm + 1) 0 := wu64_id (by omega) (by omega)
      refine Br.dec (fun e => absurd (ew.symm.trans e) (by omega)) (fun _ => ?_)
      refine (sv.mono hle).load hn.symm (by omega) (by omega) ?_
      simp only [Int.toNat_natCast]
      refine Br.dec (fun e => absurd (ew.symm.trans e) (by omega)) (fun _ => ?_)
      refine ⟨fun l h' => ∃ q, l = [U q] ∧ h' = blk2 .u32 ty_tU32s_e g bu us bq qs ∧ 0 ≤ q ∧ q ≤ 4294967296 ∧ val b32 (us.drop j) < (q + 1) * Y ∧ (q - 1) * Y ≤ val b32 (us.drop j), ?_, ?_⟩
      · have := est_loop (us := us) (vs := vs) (n := mm + 2) (j := j) (J := fun l h' => ∃ q, l = [U q] ∧ h' = blk2 .u32 ty_tU32s_e g bu us bq qs ∧ 0 ≤ q ∧ q ≤ 4294967296 ∧ val b32 (us.drop j) < (q + 1) * Y ∧ (q - 1) * Y ≤ val b32 (us.drop j)) es (sv.mono hle) su hn.symm (by omega) (by omega) (by omega) rfl rfl (by rw [show j + (mm + 2) - 2 = j + mm by omega]) (dig32 hdu (j + (mm + 2))) (dig32 hdu (j + (mm + 1))) rfl (fun q q0 q1 q2 q3 => ⟨q, rfl, rfl, q0, q1, q2, q3⟩)
        rw [hul] at this
        exact this
      · rintro q hp14 ⟨q', hl1, rfl, hq0, hq1, hqlt, hqge⟩
        obtain rfl : q = q' := by simpa using hl1
        unfold NDivMagC24
        have hpre : (us.take j).length = j := by rw [List.length_take, hul]; omega
        have := digit_loop (g := g) (bu := bu) (bq := bq) (pre := us.take j) (qs := qs) (VA := VA) (vs := vs) (n := mm + 2) (N := N) (nq := nq) (ws := us.drop j) (q := q) (X := val b32 (us.drop j)) (Y := Y)
          (J := fun l h' => ∃ us' q', l = [] ∧ h' = blk2 .u32 ty_tU32s_e g bu us' bq (qs.set j q') ∧ us'.length = N ∧ Dig b32 us' ∧ (0 ≤ q' ∧ q' < 4294967296) ∧ val b32 (us'.drop j) < Y ∧ val b32 (us'.drop j) = val b32 (us.drop j) - q' * Y ∧ us'.take j = us.take j)
          hu hq hne sv dv hn.symm dws (by rw [List.take_append_drop, hul]) (by omega) hbig hql.symm (by omega) hX hY.symm hq0 hq1 hqlt hqge hXB ?_
        · rw [List.take_append_drop, hpre] at this
          exact this
        · intro ws' q' w1 w2 w3 w4 w5 w6 w7 w8 w9
          refine ⟨us.take j ++ ws', q', rfl, by rw [hpre], by rw [List.length_append, w1, hwl, hpre]; omega, Dig.append (hdu.take j) w2, ⟨w8, w9⟩, ?_, ?_, ?_⟩
          all_goals first | (rw [List.drop_left' hpre]) | (rw [List.take_left' hpre])
          all_goals
            have z1 := val_split b32 ws' (i := mm + 3) (by omega)
            rw [w3, hzero, val_take_succ2, w4, w5] at z1
            simp at z1
            omega
    · rintro hp23 ⟨us', q', _, rfl, u1, u2, u3, u4, u5, u6⟩
      unfold NDivMagC16
      have ej1 : wi64 ((j : Int) - 1) = (j : Int) - 1 := wi64_id (by omega) (by omega)
      rw [ej1]
      refine ⟨⟨j, us', qs.set j q', rfl, by omega, u1, by simpa using hql, u2, hdq.set u3, rfl, u4, ?_⟩, by simp only [iAt, List.getElem?_cons_zero]; omega⟩
      have hs1 := val_split b32 us' (i := j) (by omega)
      have hs2 := val_split b32 us (i := j) (by omega)
      rw [hv, drop_set_self (by omega), hs1, hs2, u5, u6, Int.pow_succ]
      simp only [val]
      grind
  · have hk0 : k = 0 := by omega
    subst hk0
    simp at hlt hv
    have hb0 : 0 < b := by
      by_cases hc : 0 < b
      · exact hc
      · have := Int.mul_le_mul_of_nonneg_right (show b ≤ 0 by omega) (Int.le_of_lt hp); omega
    have hus0 := val_nonneg (by decide) hdu
    -- the remainder is a multiple of the power
    have hR : val b32 us = (a - val b32 qs * b) * 2 ^ s := by
      rw [hua, hYb] at hv
      grind
    have hr0 : 0 ≤ a - val b32 qs * b := by
      by_cases hc : 0 ≤ a - val b32 qs * b
      · exact hc
      · have := Int.mul_le_mul_of_nonneg_right (show a - val b32 qs * b ≤ -1 by omega) (Int.le_of_lt hp); omega
    have hr1 : a - val b32 qs * b < b := by
      by_cases hc : a - val b32 qs * b < b
      · exact hc
      · have := Int.mul_le_mul_of_nonneg_right (show b ≤ a - val b32 qs * b by omega) (Int.le_of_lt hp); omega
    have hdiv : a / b = val b32 qs := by
      have : a = (a - val b32 qs * b) + val b32 qs * b := by omega
      rw [this, Int.add_mul_ediv_right _ _ (by omega), Int.ediv_eq_zero_of_lt hr0 hr1, Int.zero_add]
    have hmod : a % b = a - val b32 qs * b := by
      have := Int.emod_def a b
      rw [this, hdiv, Int.mul_comm]
    rw [hdiv, hmod] at hK
    have hz := val_zero_of_lt (B := b32) (by decide) (n := mm + 2) hdu (by omega)
    have hspl := val_split b32 us (i := mm + 2) (by omega)
    rw [hz, Int.mul_zero, Int.add_zero] at hspl
    refine ⟨⟨by omega, by omega⟩, ?_⟩
    rw [cutA_zero, Int.toNat_natCast, Nat.sub_zero, Nat.sub_zero]
    have hlt2 : (us.take (mm + 2)).length = mm + 2 := by rw [List.length_take, hul]; omega
    have st : SlI .u32 (blk2 .u32 ty_tU32s_e g bu us bq qs) (some ⟨bu, 0, none⟩) (us.take (mm + 2)) := by
      have := su.cut (c := N) (l := 0) (m := mm + 2) (by omega) (by omega) (by omega)
      simpa [cutA_zero] using this
    have tr := trim_spec (K := fun r7 hp24 => ∃ (t259A : Option Addr) (t259n : Nat) (t259c : Nat), r7 = .slice t259A t259n t259c ∧ NDivMagL48 Tryz.prog K (s : Int) (some ⟨bq, 0, none⟩) nq nq t259A t259n t259c hp24) (ac := N) st (by omega) (by omega) ?_
    · rw [hlt2] at tr; exact tr
    · intro m hm hnm hvm
      rw [hlt2] at hm
      rw [List.take_take, Nat.min_eq_left hm] at hvm
      refine ⟨_, _, _, rfl, ?_⟩
      have eus : us = us.take m ++ us.drop m := (List.take_append_drop m us).symm
      rw [eus]
      refine rest_loop (rs := us.take m) (tl := us.drop m) (qs := qs) hu hq hne hs (by rw [List.length_take, hul]; omega) (by omega) hql.symm (Nat.le_refl _) hdq (hdu.take m) (by omega) (by omega) rfl ?_ hK
      rw [hvm, ← hspl, hR]
end
end Go.Proofs.YtgnclfejnndicaaGreatDoor
/-
  divMag; integers with a sign: FromInt, Sign, Neg, Add, Sub, Mul, Cmp, QuoRem, Gcd, Bits.
-/
namespace Go.Proofs.YtgnclfejnndicaaGreatDoor
open Go
set_option maxRecDepth 20000
section
variable {h g : Heap} {K : Value → Heap → Prop} {A B : Option Addr} {ac bc : Nat}
theorem lit2_ok {P : Program} {t e : TypeId} {z : Value} {bytes : Nat} (s : SliceT P t e z 1 bytes) {u v : Value} (hu : u.cells = #[u]) (hv : v.cells = #[v]) {K : Value → Heap → Prop} {h : Heap}
    (x : ∀ b, h b = none → K (.slice (some ⟨b, 0, none⟩) 2 2) (h.put b (.cells #[u, v] e))) : wpH P (Instr.buildSlice t 2 #[(0, u), (1, v)]) K h := by
  refine buildSlice_ok s (by omega) (cells := #[u, v]) ?_ x
  have hsz : (repCells z.cells 2).size = 2 := by simp [repCells, s.cells]
  have : repCells z.cells 2 = #[(repCells z.cells 2)[0]'(by omega), (repCells z.cells 2)[1]'(by omega)] := by
    apply Array.ext
    · simpa using hsz
    · intro i h1 h2
      match i with
      | 0 => rfl
      | 1 => rfl
      | i + 2 => simp at h2; omega
  rw [this]
  simp [Instr.fill, hu, hv]
theorem val_lt_top {B : Int} (hB : 0 < B) {xs : List Int} (d : Dig B xs) {m : Nat} (hl : xs.length = m + 1) : val B xs < (xs.getD m 0 + 1) * B ^ m ∧ xs.getD m 0 * B ^ m ≤ val B xs := by
  have h1 := val_take_succ2 B xs m
  rw [show m + 1 = xs.length by omega, List.take_length] at h1
  have h2 := val_lt hB (d.take m)
  have h3 := val_nonneg hB (d.take m)
  rw [List.length_take, Nat.min_eq_left (by omega)] at h2
  have e1 : (xs.getD m 0 + 1) * B ^ m = B ^ m * xs.getD m 0 + B ^ m := by grind
  have e2 : xs.getD m 0 * B ^ m = B ^ m * xs.getD m 0 := Int.mul_comm _ _
  omega
theorem top_ne {xs : List Int} {m : Nat} (hl : xs.length = m + 1) (hn : Norm xs) : xs.getD m 0 ≠ 0 := by
  intro e0
  have e := take_getD (xs := xs) (i := m) (by omega)
  rw [← hl, List.take_length, e0] at e
  apply hn
  rw [e]; simp
theorem divMag_spec {x y : Int} {an bn : Nat} (ma : Mg h A an x) (mb : Mg h B bn y) (hy : y ≠ 0) (hl : an ≤ 100000000) (hl2 : bn ≤ 100000000)
    (hK : ∀ A1 m1 c1 A2 m2 c2 h', h.le h' → m1 ≤ c1 → m2 ≤ c2 → Mg h' A1 m1 (x / y) → Mg h' A2 m2 (x % y) → K (.tuple #[.slice A1 m1 c1, .slice A2 m2 c2]) h') : FCall Tryz.prog f_NDivMag #[.slice A an ac, .slice B bn bc] h K := by
  have hx0 := ma.nonneg (by decide)
  have hy0 := mb.nonneg (by decide)
  have hb0 := mb.len_zero (by decide)
  have ha1 := ma.lt (by decide)
  have hb1 := mb.lt (by decide)
  refine NDivMag_ok _ _ _ _ _ _ ?_
  unfold NDivMag
  refine cmpMag_spec ma mb (by omega) ⟨_, rfl, Br.dec (fun h1 => ?_) (fun h1 => Br.beq (fun h2 => ?_) (fun h2 => ?_))⟩
  · have hlt : x < y := by
      by_cases hc : x < y
      · exact hc
      · rw [if_neg hc] at h1
        by_cases hc2 : x > y
        · rw [if_pos hc2] at h1; omega
        · rw [if_neg hc2] at h1; omega
    rw [Int.ediv_eq_zero_of_lt hx0 hlt, Int.emod_eq_of_lt hx0 hlt] at hK
    obtain ⟨xs, rfl, sx, dx, nx, rfl⟩ := ma
    refine lit0_ok tU32s ?_
    intro b hb
    refine ⟨_, _, _, rfl, ?_⟩
    have hle := Heap.le_put (h := h) (b := b) (.cells #[] ty_tU32s_e) hb
    have sx' := SlI.mono hle sx
    refine append_ok tU32s (Priv.nil _ _ _ _) (ys := xs.map (Value.int .u32)) (by simp) sx' (fun v hv => ?_) (by omega) (by omega) ?_
    · obtain ⟨a, _, rfl⟩ := List.mem_map.1 hv; rfl
    · intro A' c' h' g' hg hp
      rw [List.nil_append] at hp
      have hs := hp.slV
      simp only [Nat.zero_add] at hp ⊢
      exact ⟨_, _, _, rfl, hK none 0 0 A' xs.length c' h' (Heap.le_trans hle (Heap.le_trans hg hp.le)) (Nat.le_refl _) hp.2.1 Mag.zero ⟨xs, rfl, hs, dx, nx, rfl⟩⟩
  · obtain ⟨ys, rfl, sy, dy, ny, rfl⟩ := mb
    have h2' : ys.length = 1 := by omega
    obtain ⟨d, rfl⟩ : ∃ d, ys = [d] := by
      cases ys with
      | nil => simp at h2'
      | cons d r =>
        cases r with
        | nil => exact ⟨d, rfl⟩
        | cons _ _ => simp at h2'
    rw [val_one] at hy hy0 hK
    have hd := dy d (by simp)
    refine sy.load rfl (by omega) (by simp) ?_
    show FCall _ _ #[_, U32 d] _ _
    refine smallDiv_spec ma ⟨by omega, hd.2⟩ hl ?_
    intro A' m c' h' hle hm hmn hM
    refine ⟨_, _, _, _, rfl, ?_⟩
    refine lit1_ok tU32s rfl ?_
    intro b hb
    refine ⟨_, _, _, rfl, ?_⟩
    have hle2 := Heap.le_put (h := h') (b := b) (.cells #[U32 (x % d)] ty_tU32s_e) hb
    have hr : 0 ≤ x % d ∧ x % d < 4294967296 := by
      have h3 := Int.emod_nonneg x (show d ≠ 0 by omega)
      have h4 := Int.emod_lt_of_pos x (show 0 < d by omega)
      have h5 := hd.2
      show _ ∧ _ < b32
      omega
    refine trim_mag (xs := [x % d]) (SlI.new h' b [x % d] ty_tU32s_e _) (Dig.one hr) (Nat.le_refl _) (by simp) ?_
    intro m2 hm2 hM2
    rw [val_one] at hM2
    exact ⟨_, _, _, rfl, hK _ _ _ _ _ _ _ (Heap.le_trans hle hle2) hm (by simpa using hm2) (hM.mono hle2) hM2⟩
  · have hge : y ≤ x := by
      by_cases hc : x < y
      · rw [if_pos hc] at h1; omega
      · omega
    have hbn : bn ≤ an := mb.len_le (by decide) (Int.lt_of_le_of_lt hge ha1)
    obtain ⟨xs, rfl, sx, dx, nx, rfl⟩ := ma
    obtain ⟨ys, rfl, sy, dy, ny, rfl⟩ := mb
    obtain ⟨mm, hmm⟩ : ∃ mm, ys.length = mm + 2 := ⟨ys.length - 2, by omega⟩
    have gt := dig32 dy (mm + 1)
    have ht0 := top_ne (m := mm + 1) hmm ny
    obtain ⟨hyt, hyt2⟩ := val_lt_top (B := b32) (by decide) dy (m := mm + 1) hmm
    unfold NDivMagL7
    refine ⟨fun l h' => ∃ s : Nat, l = [U s] ∧ h' = h ∧ s < 32 ∧ ys.getD (mm + 1) 0 * 2 ^ s < 4294967296, fun l _ => 32 - (iAt l 0).toNat, ⟨0, rfl, rfl, by omega, by rw [Int.pow_zero, Int.mul_one]; exact gt.2⟩, ?_⟩
    rintro si hp6 ⟨s, hl1, rfl, hs, hts⟩
    obtain rfl : si = (s : Int) := by simpa using hl1
    have e1 : wi64 ((ys.length : Int) - 1) = ((mm + 1 : Nat) : Int) := by rw [wi64_id (by omega) (by omega)]; omega
    rw [e1]
    refine sy.load rfl (by omega) (by omega) ?_
    refine Br.dec (fun e => absurd e (by omega)) (fun _ => ?_)
    have hps : 0 < (2 : Int) ^ s := Int.pow_pos (by decide)
    have hge1 : 2 ^ s ≤ ys.getD (mm + 1) 0 * 2 ^ s := by
      have := Int.mul_le_mul_of_nonneg_right (show 1 ≤ ys.getD (mm + 1) 0 by omega) (Int.le_of_lt hps); omega
    have e2 : wu32 (ys.getD (((mm + 1 : Nat) : Int)).toNat 0 * 2 ^ (min ((s : Int)).toNat 32)) = ys.getD (mm + 1) 0 * 2 ^ s := by
      rw [Int.toNat_natCast, Int.toNat_natCast, Nat.min_eq_left (by omega), wu32_id (by omega) hts]
    refine Br.dec (fun h3 => ?_) (fun h3 => ?_)
    · rw [e2] at h3
      have hs31 : s + 1 < 32 := by
        by_cases hc : s + 1 < 32
        · exact hc
        · have : s = 31 := by omega
          subst this
          have : (2 : Int) ^ 31 = 2147483648 := by decide
          omega
      have e3 : wu64 ((s : Int) + 1) = ((s + 1 : Nat) : Int) := by rw [wu64_id (by omega) (by omega)]; omega
      rw [e3]
      refine ⟨⟨s + 1, rfl, rfl, hs31, ?_⟩, by simp only [iAt, List.getElem?_cons_zero]; omega⟩
      rw [Int.pow_succ, ← Int.mul_assoc]; omega
    · rw [e2] at h3
      -- the divisor shifted
      have hY1 : val b32 ys * 2 ^ s < b32 ^ (mm + 2) := by
        have hsp := two_pow_split (Nat.le_of_lt hs)
        have t1 : ys.getD (mm + 1) 0 + 1 ≤ 2 ^ (32 - s) := by
          by_cases hc : ys.getD (mm + 1) 0 + 1 ≤ 2 ^ (32 - s)
          · exact hc
          · have := Int.mul_le_mul_of_nonneg_right (show (2 : Int) ^ (32 - s) ≤ ys.getD (mm + 1) 0 by omega) (Int.le_of_lt hps)
            rw [Int.mul_comm, hsp] at this; omega
        have t2 : val b32 ys * 2 ^ s < (ys.getD (mm + 1) 0 + 1) * b32 ^ (mm + 1) * 2 ^ s := Int.mul_lt_mul_of_pos_right hyt hps
        have t3 : (ys.getD (mm + 1) 0 + 1) * b32 ^ (mm + 1) * 2 ^ s = (ys.getD (mm + 1) 0 + 1) * 2 ^ s * b32 ^ (mm + 1) := by grind
        have t4 : (ys.getD (mm + 1) 0 + 1) * 2 ^ s * b32 ^ (mm + 1) ≤ 4294967296 * b32 ^ (mm + 1) := by
          apply Int.mul_le_mul_of_nonneg_right _ (Int.le_of_lt (pow_pos' (by decide) _))
          rw [← hsp, Int.mul_comm (2 ^ s)]
          exact Int.mul_le_mul_of_nonneg_right t1 (Int.le_of_lt hps)
        rw [Int.pow_succ b32 (mm + 1), Int.mul_comm (b32 ^ (mm + 1))]
        show _ < (4294967296 : Int) * _
        omega
      have hY2 : 2147483648 * b32 ^ (mm + 1) ≤ val b32 ys * 2 ^ s := by
        have t1 : ys.getD (mm + 1) 0 * b32 ^ (mm + 1) * 2 ^ s ≤ val b32 ys * 2 ^ s := Int.mul_le_mul_of_nonneg_right hyt2 (Int.le_of_lt hps)
        have t2 : 2147483648 * b32 ^ (mm + 1) ≤ ys.getD (mm + 1) 0 * 2 ^ s * b32 ^ (mm + 1) := Int.mul_le_mul_of_nonneg_right (by omega) (Int.le_of_lt (pow_pos' (by decide) _))
        have t3 : ys.getD (mm + 1) 0 * 2 ^ s * b32 ^ (mm + 1) = ys.getD (mm + 1) 0 * b32 ^ (mm + 1) * 2 ^ s := by grind
        omega
      refine shiftLeft_spec sy dy hs (by omega) ?_
      intro bv zv hbv hzvl hdv hvv
      refine ⟨_, _, _, rfl, ?_⟩
      rw [← hzvl]
      refine trim_mag (blk_sl _ _ _ _ _) hdv (Nat.le_refl _) (by omega) ?_
      intro n hn hMv
      refine ⟨_, _, _, rfl, ?_⟩
      rw [hvv] at hMv
      have hn2 : n = mm + 2 := by
        have l1 := hMv.len_le (by decide) hY1
        have l2 := hMv.lt (by decide)
        by_cases hc : n = mm + 2
        · exact hc
        · have := pow_le_pow' (B := b32) (by decide) (show n ≤ mm + 1 by omega)
          have := pow_pos' (B := b32) (by decide) (mm + 1)
          omega
      subst hn2
      obtain ⟨vs, hvl, sv, dv, nv, hvv2⟩ := hMv
      have hv1 : 4294967296 ≤ 2 * vs.getD (mm + 1) 0 := by
        obtain ⟨q1, q2⟩ := val_lt_top (B := b32) (by decide) dv (m := mm + 1) hvl.symm
        rw [hvv2] at q1
        have : 2147483648 < vs.getD (mm + 1) 0 + 1 := by
          by_cases hc : 2147483648 < vs.getD (mm + 1) 0 + 1
          · exact hc
          · have := Int.mul_le_mul_of_nonneg_right (show vs.getD (mm + 1) 0 + 1 ≤ 2147483648 by omega) (Int.le_of_lt (pow_pos' (B := b32) (by decide) (mm + 1))); omega
        omega
      have hle1 := blk_le (k := .u32) (e := ty_tU32s_e) hbv zv
      refine shiftLeft_spec (SlI.mono hle1 sx) dx hs (by omega) ?_
      intro bu us hbu hul hdu huv
      refine ⟨_, _, _, rfl, ?_⟩
      obtain ⟨nq, hnq⟩ : ∃ nq, xs.length + 1 = nq + (mm + 2) := ⟨xs.length + 1 - (mm + 2), by omega⟩
      have e4 : wi64 (wi64 (wi64 (((xs.length + 1 : Nat) : Int) - ((mm + 2 : Nat) : Int)) - 1) + 1) = (nq : Int) := by
        rw [wi64_id (n := ((xs.length + 1 : Nat) : Int) - ((mm + 2 : Nat) : Int)) (by omega) (by omega), wi64_id (n := _ - (1 : Int)) (by omega) (by omega), wi64_id (by omega) (by omega)]; omega
      rw [e4]
      refine blk_make tU32s (by omega) (by omega) (by omega) ?_
      intro bq hbq
      rw [Int.toNat_natCast]
      refine ⟨_, _, _, rfl, ?_⟩
      have hne : bu ≠ bq := by
        rintro rfl
        unfold blk at hbq
        rw [Heap.put_same] at hbq; cases hbq
      have hbq' : blk .u32 ty_tU32s_e hp6 bv zv bq = none := by
        have := hbq
        unfold blk at this ⊢
        rwa [Heap.put_other _ _ hne.symm] at this
      refine all_digits (us0 := us) (N := xs.length + 1) hbu hbq' hne sv dv hvl.symm hv1 hs hvv2 rfl hdu hul huv hnq (by omega) (by omega) ?_ ?_
      · have s1 := val_split b32 us (i := nq) (by omega)
        have s2 := val_nonneg (by decide) (hdu.take nq)
        have s3 : val b32 us < b32 ^ xs.length * 2 ^ s := by
          rw [huv]; exact Int.mul_lt_mul_of_pos_right ha1 hps
        have s4 : b32 ^ (mm + 1) ≤ val b32 ys := by
          have := Int.mul_le_mul_of_nonneg_right (show 1 ≤ ys.getD (mm + 1) 0 by omega) (Int.le_of_lt (pow_pos' (B := b32) (by decide) (mm + 1))); omega
        have s5 : b32 ^ nq * (b32 ^ (mm + 1) * 2 ^ s) ≤ b32 ^ nq * (val b32 ys * 2 ^ s) := Int.mul_le_mul_of_nonneg_left (Int.mul_le_mul_of_nonneg_right s4 (Int.le_of_lt hps)) (Int.le_of_lt (pow_pos' (by decide) nq))
        have s6 : b32 ^ nq * (b32 ^ (mm + 1) * 2 ^ s) = b32 ^ xs.length * 2 ^ s := by
          rw [← Int.mul_assoc, ← Int.pow_add, show nq + (mm + 1) = xs.length by omega]
        by_cases hc : val b32 (us.drop nq) < val b32 ys * 2 ^ s
        · exact hc
        · have := Int.mul_le_mul_of_nonneg_left (show val b32 ys * 2 ^ s ≤ val b32 (us.drop nq) by omega) (Int.le_of_lt (pow_pos' (B := b32) (by decide) nq)); omega
      · intro A1 m1 c1 A2 m2 c2 h' hle hm1 hm2 hM1 hM2
        exact hK _ _ _ _ _ _ _ (Heap.le_trans hle1 hle) hm1 hm2 hM1 hM2
end
end Go.Proofs.YtgnclfejnndicaaGreatDoor
/-
  Integers with a sign: make1, FromInt, Sign, Neg, Add, Sub, Mul, Cmp, QuoRem, Gcd, Bits.
-/
namespace Go.Proofs.YtgnclfejnndicaaGreatDoor
open Go
set_option maxRecDepth 20000
/-- what a slice of numbers reads as is one thing -/
theorem SlI.unique {k : IntKind} {h : Heap} {A : Option Addr} {xs ys : List Int} (s : SlI k h A xs) (t : SlI k h A ys) (hl : xs.length = ys.length) : xs = ys := by
  apply List.ext_getElem hl
  intro i h1 h2
  obtain ⟨a, ha, hc⟩ := SlV.at s (i := i) (by simpa using h1)
  obtain ⟨b, hb, hd⟩ := SlV.at t (i := i) (by simpa using h2)
  rw [ha] at hb
  cases hb
  rw [hc] at hd
  simpa using hd
theorem Mag.unique {k : IntKind} {B : Int} {h : Heap} {A : Option Addr} {len : Nat} {m n : Int} (a : Mag k B h A len m) (b : Mag k B h A len n) : m = n := by
  obtain ⟨xs, h1, h2, h3, h4, rfl⟩ := a
  obtain ⟨ys, g1, g2, g3, g4, rfl⟩ := b
  rw [h2.unique g2 (by omega)]
/-- the number in a slice -/
def cellsI (h : Heap) (A : Option Addr) (len : Nat) : List Int := (List.range len).map fun i =>
  match A with
  | some a => (match h.cell? (a.add i) with | some (.int _ n) => n | _ => 0)
  | none => 0
def mval (B : Int) (h : Heap) (A : Option Addr) (len : Nat) : Nat := (val B (cellsI h A len)).toNat
theorem cellsI_eq {k : IntKind} {h : Heap} {A : Option Addr} {xs : List Int} (s : SlI k h A xs) : cellsI h A xs.length = xs := by
  apply List.ext_getElem
  · simp [cellsI]
  · intro i h1 h2
    obtain ⟨a, ha, hc⟩ := SlV.at s (i := i) (by simpa using h2)
    subst ha
    simp [cellsI, hc]
theorem mval_eq {k : IntKind} {B : Int} {h : Heap} {A : Option Addr} {len : Nat} {n : Int} (m : Mag k B h A len n) : mval B h A len = n.toNat := by
  obtain ⟨xs, rfl, s, _, _, rfl⟩ := m
  unfold mval
  rw [cellsI_eq s]
/-- at most that many bits -/
def ZB (m : Nat) (z : Int) : Prop := z.natAbs < 2 ^ m
theorem ZB.mono {m n : Nat} {z : Int} (h : ZB m z) (hm : m ≤ n) : ZB n z := Nat.lt_of_lt_of_le h (Nat.pow_le_pow_right (by decide) hm)
theorem ZB.neg {m : Nat} {z : Int} (h : ZB m z) : ZB m (-z) := by unfold ZB at *; rwa [Int.natAbs_neg]
theorem ZB.add {m : Nat} {x y : Int} (hx : ZB m x) (hy : ZB m y) : ZB (m + 1) (x + y) := by
  unfold ZB at *; rw [Nat.pow_succ]
  have := Int.natAbs_add_le x y; omega
theorem ZB.sub {m : Nat} {x y : Int} (hx : ZB m x) (hy : ZB m y) : ZB (m + 1) (x - y) := by
  rw [Int.sub_eq_add_neg]; exact hx.add hy.neg
theorem ZB.mul {m n : Nat} {x y : Int} (hx : ZB m x) (hy : ZB n y) : ZB (m + n) (x * y) := by
  unfold ZB at *; rw [Int.natAbs_mul, Nat.pow_add]
  have h1 : x.natAbs * y.natAbs ≤ x.natAbs * 2 ^ n := Nat.mul_le_mul_left _ (Nat.le_of_lt hy)
  have h2 : x.natAbs * 2 ^ n < 2 ^ m * 2 ^ n := Nat.mul_lt_mul_of_pos_right hx (Nat.pow_pos (by decide))
  omega
theorem ZB.le {m : Nat} {x y : Int} (hx : ZB m x) (h : y.natAbs ≤ x.natAbs) : ZB m y := Nat.lt_of_le_of_lt h hx
theorem ZB.one {m : Nat} (h : 1 ≤ m) : ZB m 1 := ZB.mono (m := 1) (by unfold ZB; decide) h
theorem ZB.zero {m : Nat} : ZB m 0 := Nat.pow_pos (by decide)
theorem ZB.i64 {z : Int} (h0 : -9223372036854775808 ≤ z) (h1 : z ≤ 9223372036854775807) : ZB 64 z := by unfold ZB; omega
theorem mag_len {k : IntKind} {j : Nat} (hj : 0 < j) {h : Heap} {A : Option Addr} {n m : Nat} {x : Int} (M : Mag k ((2 : Int) ^ j) h A n x) (hx : x < 2 ^ m) : n ≤ m / j + 1 := by
  refine M.len_le ?_ ?_
  · have := pow_le_pow' (B := 2) (by decide) hj; omega
  · have e : ((2 : Int) ^ j) ^ (m / j + 1) = 2 ^ (j * (m / j + 1)) := by rw [Int.pow_mul]
    rw [e]
    have : m ≤ j * (m / j + 1) := by
      have h1 := Nat.div_add_mod m j
      have h2 := Nat.mod_lt m hj
      rw [Nat.mul_add]; omega
    have := pow_le_pow' (B := 2) (by decide) this
    omega
structure NI (h : Heap) (s : Bool) (A : Option Addr) (n c : Nat) (z : Int) : Prop where
  mag : Mg h A n (z.natAbs : Int)
  sg : s = decide (z < 0)
  cap : n ≤ c
section
variable {h h' : Heap} {K : Value → Heap → Prop} {A B : Option Addr} {n c n' c' : Nat} {s s' : Bool} {x y z : Int} {m : Nat}
theorem NI.mono (hl : h.le h') (i : NI h s A n c z) : NI h' s A n c z := ⟨i.mag.mono hl, i.sg, i.cap⟩
theorem NI.len (i : NI h s A n c z) (hz : ZB m z) (hm : m ≤ 1000000000) : n ≤ 100000000 := by
  have := mag_len (j := 32) (by decide) i.mag (m := m) (by unfold ZB at hz; have : ((z.natAbs : Nat) : Int) < ((2 ^ m : Nat) : Int) := by omega
                                                           simpa using this)
  omega
theorem NI.zero_iff (i : NI h s A n c z) : n = 0 ↔ z = 0 := by
  have := i.mag.len_zero (by decide)
  omega
theorem NI.nil : NI h false A 0 0 0 := ⟨Mag.zero, rfl, Nat.le_refl _⟩
theorem make1_spec {neg : Bool} {x : Int} (M : Mg h A n x) (hc : n ≤ c) (hK : ∀ s, NI h s A n c (if neg then -x else x) → K (.agg #[.bool s, .slice A n c]) h) : FCall Tryz.prog f_NMake1 #[.bool neg, .slice A n c] h K := by
  have h0 := M.nonneg (by decide)
  have hz := M.len_zero (by decide)
  refine NMake1_ok _ _ _ _ ?_
  unfold NMake1
  refine Br.of (fun e => ?_) (fun e => ?_)
  · subst e
    refine hK _ ⟨?_, ?_, hc⟩
    · have : (((if true = true then -x else x).natAbs : Nat) : Int) = x := by simp; omega
      rw [this]; exact M
    · simp; omega
  · subst e
    refine hK _ ⟨?_, ?_, hc⟩
    · have : (((if false = true then -x else x).natAbs : Nat) : Int) = x := by simp; omega
      rw [this]; exact M
    · simp; omega
theorem fromInt_spec (hz : -9223372036854775808 ≤ z ∧ z ≤ 9223372036854775807) (hK : ∀ s A n c h', h.le h' → NI h' s A n c z → K (.agg #[.bool s, .slice A n c]) h') : FCall Tryz.prog f_NFromInt #[I z] h K := by
  refine NFromInt_ok _ ?_
  unfold NFromInt
  refine ⟨fun l h' => l = [U z.natAbs] ∧ h' = h, Br.dec (fun h1 => ⟨?_, rfl⟩) (fun h1 => ⟨?_, rfl⟩), ?_⟩
  · have : wu64 (0 - wu64 z) = z.natAbs := by rw [wu64_mod, wu64_mod]; omega
    rw [this]
  · have : wu64 z = z.natAbs := by rw [wu64_mod]; omega
    rw [this]
  · rintro u hp ⟨hl, rfl⟩
    obtain rfl : u = (z.natAbs : Int) := by simpa using hl
    rw [wu32_mod, shr32, wu32_id (n := (z.natAbs : Int) / 4294967296) (by omega) (by omega)]
    refine lit2_ok tU32s rfl rfl ?_
    intro b hb
    refine ⟨_, _, _, rfl, ?_⟩
    have hd : Dig b32 [(z.natAbs : Int) % 4294967296, (z.natAbs : Int) / 4294967296] := by
      intro d hd
      simp only [List.mem_cons, List.not_mem_nil, or_false] at hd
      show _ ∧ _ < (4294967296 : Int)
      rcases hd with rfl | rfl <;> omega
    refine trim_mag (xs := [(z.natAbs : Int) % 4294967296, (z.natAbs : Int) / 4294967296]) (SlI.new hp b _ ty_tU32s_e _) hd (Nat.le_refl _) (by simp) ?_
    intro m hm hM
    have hv : val b32 [(z.natAbs : Int) % 4294967296, (z.natAbs : Int) / 4294967296] = z.natAbs := by
      simp only [val]
      show _ + (4294967296 : Int) * (_ + 4294967296 * 0) = _
      omega
    rw [hv] at hM
    refine ⟨_, _, _, rfl, ?_⟩
    refine make1_spec hM (by simpa using hm) ?_
    intro s i
    refine ⟨_, _, _, _, rfl, hK _ _ _ _ _ (Heap.le_put _ hb) ?_⟩
    have : (if decide (z < 0) = true then -(z.natAbs : Int) else (z.natAbs : Int)) = z := by
      by_cases h0 : z < 0
      · rw [if_pos (by simpa using h0)]; omega
      · rw [if_neg (by simpa using h0)]; omega
    rw [this] at i
    exact i
theorem sign_spec (i : NI h s A n c z) (hK : K (I z.sign) h) : FCall Tryz.prog f_NSign #[.agg #[.bool s, .slice A n c]] h K := by
  have hz := i.zero_iff
  have hs := i.sg
  refine NSign_ok _ _ _ _ ?_
  unfold NSign
  refine Br.of (fun e => ?_) (fun e => ?_)
  · have h0 : z < 0 := by rw [hs] at e; simpa using e
    rw [Int.sign_eq_neg_one_of_neg h0] at hK; exact hK
  · have h0 : ¬ z < 0 := by rw [hs] at e; simpa using e
    refine Br.beq (fun e => ?_) (fun e => ?_)
    · have : z = 0 := by omega
      subst this; exact hK
    · rw [Int.sign_eq_one_of_pos (by omega)] at hK; exact hK
theorem neg_spec (i : NI h s A n c z) (hK : ∀ s, NI h s A n c (-z) → K (.agg #[.bool s, .slice A n c]) h) : FCall Tryz.prog f_NNeg #[.agg #[.bool s, .slice A n c]] h K := by
  refine NNeg_ok _ _ _ _ ?_
  unfold NNeg
  refine make1_spec i.mag i.cap ?_
  intro s' i'
  refine ⟨_, _, _, _, rfl, hK _ ?_⟩
  have : (if (!s) = true then -(z.natAbs : Int) else (z.natAbs : Int)) = -z := by
    rw [i.sg]
    by_cases h0 : z < 0
    · rw [if_neg (by simpa using h0)]; omega
    · rw [if_pos (by simpa using h0)]; omega
  rw [this] at i'; exact i'
theorem add_spec (ia : NI h s A n c x) (ib : NI h s' B n' c' y) (hx : ZB m x) (hy : ZB m y) (hm : m ≤ 1000000000) (hK : ∀ s A n c h', h.le h' → NI h' s A n c (x + y) → K (.agg #[.bool s, .slice A n c]) h') : FCall Tryz.prog f_NAdd #[.agg #[.bool s, .slice A n c], .agg #[.bool s', .slice B n' c']] h K := by
  have l1 := ia.len hx hm
  have l2 := ib.len hy hm
  refine NAdd_ok _ _ _ _ _ _ _ _ ?_
  unfold NAdd
  have hs := ia.sg
  have hs' := ib.sg
  refine Br.of (fun e => ?_) (fun e => ?_)
  · have e1 : s = s' := by simpa using e
    refine addMag_spec ia.mag ib.mag l1 l2 ?_
    intro A' m' c1 h1 hle hc1 hM
    refine ⟨_, _, _, rfl, hle, ?_⟩
    refine make1_spec hM hc1 ?_
    intro s1 i1
    refine ⟨_, _, _, _, rfl, Heap.le_refl _, hK _ _ _ _ _ hle ?_⟩
    have : (if s = true then -((x.natAbs : Int) + y.natAbs) else (x.natAbs : Int) + y.natAbs) = x + y := by
      rw [e1] at hs
      by_cases h0 : x < 0
      · have : s = true := by rw [e1, hs]; simpa using h0
        rw [if_pos this]
        have : y < 0 := by rw [hs'] at hs; simpa [h0] using hs
        omega
      · have : ¬ s = true := by rw [e1, hs]; simpa using h0
        rw [if_neg this]
        have : ¬ y < 0 := by rw [hs'] at hs; simpa [h0] using hs
        omega
    rw [this] at i1; exact i1
  · have e1 : s ≠ s' := by simpa using e
    refine cmpMag_spec ia.mag ib.mag (by omega) ⟨_, rfl, Br.dec (fun h1 => ?_) (fun h1 => ?_)⟩
    · have hge : (y.natAbs : Int) ≤ x.natAbs := by
        by_cases hc : (x.natAbs : Int) < y.natAbs
        · rw [if_pos hc] at h1; omega
        · omega
      refine subMag_spec ia.mag ib.mag hge l1 ?_
      intro A' m' c1 h1 hle hc1 hM
      refine ⟨_, _, _, rfl, hle, ?_⟩
      refine make1_spec hM hc1 ?_
      intro s1 i1
      refine ⟨_, _, _, _, rfl, Heap.le_refl _, hK _ _ _ _ _ hle ?_⟩
      have : (if s = true then -((x.natAbs : Int) - y.natAbs) else (x.natAbs : Int) - y.natAbs) = x + y := by
        by_cases h0 : x < 0
        · have hst : s = true := by rw [hs]; simpa using h0
          rw [if_pos hst]
          have : ¬ y < 0 := by intro h2; apply e1; rw [hs, hs']; simp [h0, h2]
          omega
        · have hst : ¬ s = true := by rw [hs]; simpa using h0
          rw [if_neg hst]
          have : y < 0 := by
            by_cases h2 : y < 0
            · exact h2
            · exact absurd (by rw [hs, hs']; simp [h0, h2]) e1
          omega
      rw [this] at i1; exact i1
    · have hge : (x.natAbs : Int) ≤ y.natAbs := by
        by_cases hc : (x.natAbs : Int) < y.natAbs
        · omega
        · rw [if_neg hc] at h1
          by_cases hc2 : (x.natAbs : Int) > y.natAbs
          · rw [if_pos hc2] at h1; omega
          · rw [if_neg hc2] at h1; omega
      refine subMag_spec ib.mag ia.mag hge l2 ?_
      intro A' m' c1 h1 hle hc1 hM
      refine ⟨_, _, _, rfl, hle, ?_⟩
      refine make1_spec hM hc1 ?_
      intro s1 i1
      refine ⟨_, _, _, _, rfl, Heap.le_refl _, hK _ _ _ _ _ hle ?_⟩
      have : (if s' = true then -((y.natAbs : Int) - x.natAbs) else (y.natAbs : Int) - x.natAbs) = x + y := by
        by_cases h0 : y < 0
        · have hst : s' = true := by rw [hs']; simpa using h0
          rw [if_pos hst]
          have : ¬ x < 0 := by intro h2; apply e1; rw [hs, hs']; simp [h0, h2]
          omega
        · have hst : ¬ s' = true := by rw [hs']; simpa using h0
          rw [if_neg hst]
          have : x < 0 := by
            by_cases h2 : x < 0
            · exact h2
            · exact absurd (by rw [hs, hs']; simp [h0, h2]) e1
          omega
      rw [this] at i1; exact i1
theorem sub_spec (ia : NI h s A n c x) (ib : NI h s' B n' c' y) (hx : ZB m x) (hy : ZB m y) (hm : m ≤ 1000000000) (hK : ∀ s A n c h', h.le h' → NI h' s A n c (x - y) → K (.agg #[.bool s, .slice A n c]) h') : FCall Tryz.prog f_NSub #[.agg #[.bool s, .slice A n c], .agg #[.bool s', .slice B n' c']] h K := by
  refine NSub_ok _ _ _ _ _ _ _ _ ?_
  unfold NSub
  refine neg_spec ib ?_
  intro s1 i1
  refine ⟨_, _, _, _, rfl, Heap.le_refl _, ?_⟩
  refine add_spec ia i1 hx hy.neg hm ?_
  intro s2 A2 n2 c2 h2 l2 i2
  exact ⟨_, _, _, _, rfl, l2, hK _ _ _ _ _ l2 i2⟩
theorem signs_mul (x y : Int) (p : Nat) (hs : s = decide (x < 0)) (hs' : s' = decide (y < 0)) : (if (!(s == s')) = true then -(p : Int) else (p : Int)) = x.sign * y.sign * p ∨ x = 0 ∨ y = 0 := by
  by_cases h1 : x = 0
  · right; left; exact h1
  by_cases h2 : y = 0
  · right; right; exact h2
  left
  by_cases h3 : x < 0 <;> by_cases h4 : y < 0
  · rw [Int.sign_eq_neg_one_of_neg h3, Int.sign_eq_neg_one_of_neg h4, if_neg (by rw [hs, hs']; simp [h3, h4])]; omega
  · rw [Int.sign_eq_neg_one_of_neg h3, Int.sign_eq_one_of_pos (by omega), if_pos (by rw [hs, hs']; simp [h3, h4])]; omega
  · rw [Int.sign_eq_one_of_pos (by omega), Int.sign_eq_neg_one_of_neg h4, if_pos (by rw [hs, hs']; simp [h3, h4])]; omega
  · rw [Int.sign_eq_one_of_pos (by omega), Int.sign_eq_one_of_pos (by omega), if_neg (by rw [hs, hs']; simp [h3, h4])]; omega
theorem tdiv_signs (x y : Int) : x.tdiv y = x.sign * y.sign * ((x.natAbs / y.natAbs : Nat) : Int) := by
  have key : ∀ a b : Nat, (a : Int).tdiv b = (a : Int).sign * (b : Int).sign * ((a / b : Nat) : Int) := by
    intro a b
    rw [← Int.ofNat_tdiv]
    by_cases ha : a = 0
    · subst ha; simp
    by_cases hb : b = 0
    · subst hb; simp
    rw [Int.sign_eq_one_of_pos (by omega), Int.sign_eq_one_of_pos (by omega), Int.one_mul, Int.one_mul]
  obtain ⟨a, rfl | rfl⟩ := Int.eq_nat_or_neg x <;> obtain ⟨b, rfl | rfl⟩ := Int.eq_nat_or_neg y <;> simp only [Int.neg_tdiv, Int.tdiv_neg, Int.sign_neg, Int.natAbs_neg, Int.natAbs_natCast, key] <;> grind
theorem mul_spec {m' : Nat} (ia : NI h s A n c x) (ib : NI h s' B n' c' y) (hx : ZB m x) (hy : ZB m' y) (hm : m ≤ 1000000000) (hm' : m' ≤ 1000000000) (hK : ∀ s A n c h', h.le h' → NI h' s A n c (x * y) → K (.agg #[.bool s, .slice A n c]) h') : FCall Tryz.prog f_NMul #[.agg #[.bool s, .slice A n c], .agg #[.bool s', .slice B n' c']] h K := by
  refine NMul_ok _ _ _ _ _ _ _ _ ?_
  unfold NMul
  refine mulMag_spec ia.mag ib.mag (ia.len hx hm) (ib.len hy hm') ?_
  intro A' m1 c1 h1 hle hc1 hM
  refine ⟨_, _, _, rfl, hle, ?_⟩
  refine make1_spec hM hc1 ?_
  intro s1 i1
  refine ⟨_, _, _, _, rfl, Heap.le_refl _, hK _ _ _ _ _ hle ?_⟩
  have : (if (!(s == s')) = true then -((x.natAbs : Int) * y.natAbs) else (x.natAbs : Int) * y.natAbs) = x * y := by
    rcases signs_mul x y (x.natAbs * y.natAbs) ia.sg ib.sg with e | e | e
    · rw [Int.natCast_mul] at e
      rw [e]
      have e1 := Int.sign_mul_natAbs x
      have e2 := Int.sign_mul_natAbs y
      have : x.sign * y.sign * ((x.natAbs : Int) * y.natAbs) = (x.sign * x.natAbs) * (y.sign * y.natAbs) := by grind
      rw [this, e1, e2]
    · subst e; simp
    · subst e; simp
  rw [this] at i1; exact i1
theorem quoRem_spec (ia : NI h s A n c x) (ib : NI h s' B n' c' y) (hy0 : y ≠ 0) (hx : ZB m x) (hy : ZB m y) (hm : m ≤ 1000000000) (hK : ∀ s A n c s' B n' c' h', h.le h' → NI h' s A n c (x.tdiv y) → NI h' s' B n' c' (x.tmod y) → K (.tuple #[.agg #[.bool s, .slice A n c], .agg #[.bool s', .slice B n' c']]) h') : FCall Tryz.prog f_NQuoRem #[.agg #[.bool s, .slice A n c], .agg #[.bool s', .slice B n' c']] h K := by
  refine NQuoRem_ok _ _ _ _ _ _ _ _ ?_
  unfold NQuoRem
  refine divMag_spec ia.mag ib.mag (by omega) (ia.len hx hm) (ib.len hy hm) ?_
  intro A1 m1 c1 A2 m2 c2 h1 hle hc1 hc2 M1 M2
  refine ⟨_, _, _, _, _, _, rfl, ?_⟩
  refine make1_spec M1 hc1 ?_
  intro s1 i1
  refine ⟨_, _, _, _, rfl, Heap.le_refl _, ?_⟩
  refine make1_spec M2 hc2 ?_
  intro s2 i2
  refine ⟨_, _, _, _, rfl, Heap.le_refl _, hK _ _ _ _ _ _ _ _ _ hle ?_ ?_⟩
  · have : (if (!(s == s')) = true then -((x.natAbs : Int) / y.natAbs) else (x.natAbs : Int) / y.natAbs) = x.tdiv y := by
      rcases signs_mul x y (x.natAbs / y.natAbs) ia.sg ib.sg with e | e | e
      · rw [Int.natCast_ediv] at e
        rw [e, tdiv_signs, Int.natCast_ediv]
      · subst e; simp
      · exact absurd e hy0
    rw [this] at i1; exact i1
  · have : (if s = true then -((x.natAbs : Int) % y.natAbs) else (x.natAbs : Int) % y.natAbs) = x.tmod y := by
      rw [ia.sg]
      by_cases h0 : x < 0
      · rw [if_pos (by simpa using h0)]
        obtain ⟨k, rfl⟩ : ∃ k : Nat, x = -(k : Int) := ⟨x.natAbs, by omega⟩
        rw [Int.neg_tmod, Int.natAbs_neg, Int.natAbs_natCast]
        congr 1
        rw [← Int.tmod_eq_emod_of_nonneg (by omega)]
        by_cases h2 : y < 0
        · obtain ⟨j, rfl⟩ : ∃ j : Nat, y = -(j : Int) := ⟨y.natAbs, by omega⟩
          rw [Int.tmod_neg, Int.natAbs_neg, Int.natAbs_natCast]
        · rw [Int.natAbs_of_nonneg (by omega)]
      · rw [if_neg (by simpa using h0)]
        rw [Int.natAbs_of_nonneg (by omega), ← Int.tmod_eq_emod_of_nonneg (by omega)]
        by_cases h2 : y < 0
        · obtain ⟨j, rfl⟩ : ∃ j : Nat, y = -(j : Int) := ⟨y.natAbs, by omega⟩
          rw [Int.tmod_neg, Int.natAbs_neg, Int.natAbs_natCast]
        · rw [Int.natAbs_of_nonneg (by omega)]
    rw [this] at i2; exact i2
end
end Go.Proofs.YtgnclfejnndicaaGreatDoor
/-
  Gcd, Bits, Cmp; rational numbers: Den, Frac, R, RSign, RNeg, RAdd, RSub, RMul, RDiv, RCmp, Floor.
-/
namespace Go.Proofs.YtgnclfejnndicaaGreatDoor
open Go
set_option maxRecDepth 20000
/-- how many bits a natural number has -/
def blen (n : Nat) : Nat := if n = 0 then 0 else Nat.log2 n + 1
theorem blen_zero : blen 0 = 0 := rfl
theorem blen_half {n : Nat} (h : n ≠ 0) : blen n = blen (n / 2) + 1 := by
  unfold blen
  rw [if_neg h]
  by_cases h1 : n / 2 = 0
  · have : n = 1 := by omega
    subst this; rfl
  · rw [if_neg h1, Nat.log2_def n, if_pos (by omega)]
theorem blen_spec {n : Nat} (h : n ≠ 0) : 2 ^ (blen n - 1) ≤ n ∧ n < 2 ^ blen n := by
  unfold blen
  rw [if_neg h, Nat.add_sub_cancel]
  exact ⟨Nat.log2_self_le h, Nat.lt_log2_self⟩
theorem blen_unique {n k : Nat} (h1 : 2 ^ k ≤ n) (h2 : n < 2 ^ (k + 1)) : blen n = k + 1 := by
  have h0 : n ≠ 0 := by have := Nat.pow_pos (n := k) (show 0 < 2 by decide); omega
  unfold blen
  rw [if_neg h0]
  have a := (Nat.le_log2 h0).2 h1
  have b := (Nat.log2_lt h0).2 h2
  omega
theorem blen_shift {l t j : Nat} (hl : l < 2 ^ j) (ht : t ≠ 0) : blen (l + 2 ^ j * t) = j + blen t := by
  obtain ⟨a, b⟩ := blen_spec ht
  have hb : blen t = blen t - 1 + 1 := by unfold blen; rw [if_neg ht]; omega
  have hp : 0 < 2 ^ j := Nat.pow_pos (by decide)
  rw [hb, ← Nat.add_assoc]
  apply blen_unique
  · rw [Nat.pow_add]
    have := Nat.mul_le_mul_left (2 ^ j) a
    omega
  · rw [Nat.add_assoc, ← hb, Nat.pow_add]
    have := Nat.mul_le_mul_left (2 ^ j) (show t + 1 ≤ 2 ^ blen t by omega)
    rw [Nat.mul_add] at this; omega
theorem blen_le {n k : Nat} (h : n < 2 ^ k) : blen n ≤ k := by
  by_cases h0 : n = 0
  · subst h0; rw [blen_zero]; omega
  · unfold blen; rw [if_neg h0]; have := (Nat.log2_lt h0).2 h; omega
theorem blen_one {n : Nat} : blen n = 1 ↔ n = 1 := by
  constructor
  · intro h
    by_cases h0 : n = 0
    · subst h0; cases h
    · have := blen_spec h0
      rw [h] at this; simp at this; omega
  · rintro rfl; rfl
theorem blen_gt_one {n : Nat} : 1 < blen n ↔ 1 < n := by
  by_cases h0 : n = 0
  · subst h0; simp [blen]
  by_cases h1 : n = 1
  · subst h1; decide
  · have h2 : blen n ≠ 0 := by unfold blen; rw [if_neg h0]; omega
    have h3 : blen n ≠ 1 := fun e => h1 (blen_one.1 e)
    omega
section
variable {h h' : Heap} {K : Value → Heap → Prop} {A B : Option Addr} {n c n' c' : Nat} {s s' : Bool} {x y z : Int} {m : Nat}
theorem gcd_spec (ia : NI h s A n c x) (ib : NI h s' B n' c' y) (hx : ZB m x) (hy : ZB m y) (hm : m ≤ 1000000000) (hK : ∀ s A n c h', h.le h' → NI h' s A n c (Int.gcd x y) → K (.agg #[.bool s, .slice A n c]) h') : FCall Tryz.prog f_NGcd #[.agg #[.bool s, .slice A n c], .agg #[.bool s', .slice B n' c']] h K := by
  refine NGcd_ok _ _ _ _ _ _ _ _ ?_
  unfold NGcd
  refine ⟨fun l hp => ∃ (A B : Option Addr) (n c n' c' X Y : Nat), l = [.slice A n c, .slice B n' c'] ∧ h.le hp ∧ Mg hp A n X ∧ Mg hp B n' Y ∧ n ≤ c ∧ n' ≤ c' ∧ Nat.gcd X Y = Int.gcd x y ∧ n ≤ 100000000 ∧ n' ≤ 100000000, fun l hp => match l with | [_, .slice A n _] => mval b32 hp A n | _ => 0, ⟨_, _, _, _, _, _, _, _, rfl, Heap.le_refl h, ia.mag, ib.mag, ia.cap, ib.cap, rfl, ia.len hx hm, ib.len hy hm⟩, ?_⟩
  rintro A1 n1 c1 B1 n2 c2 hp ⟨A1', B1', n1', c1', n2', c2', X, Y, hl, hle, M1, M2, k1, k2, hg, q1, q2⟩
  obtain ⟨⟨rfl, rfl, rfl⟩, rfl, rfl, rfl⟩ : (A1 = A1' ∧ n1 = n1' ∧ c1 = c1') ∧ B1 = B1' ∧ n2 = n2' ∧ c2 = c2' := by simpa using hl
  have hz := M2.len_zero (by decide)
  refine Br.dec (fun h1 => ?_) (fun h1 => ?_)
  · have hY : Y ≠ 0 := by omega
    refine divMag_spec M1 M2 (by omega) q1 q2 ?_
    intro A3 m3 c3 A4 m4 c4 h' hle' k3 k4 M3 M4
    have hmod : ((X : Int) % (Y : Int)) = ((X % Y : Nat) : Int) := by omega
    rw [hmod] at M4
    have hlt := Nat.mod_lt X (Nat.pos_of_ne_zero hY)
    refine ⟨_, _, _, _, _, _, rfl, ⟨_, _, _, _, _, _, Y, X % Y, rfl, Heap.le_trans hle hle', M2.mono hle', M4, k2, k4, ?_, q2, ?_⟩, ?_⟩
    · rw [← hg, Nat.gcd_comm X Y, Nat.gcd_rec Y X, Nat.gcd_comm]
    · have := M4.len_le (by decide) (j := n2) (Int.lt_trans (show ((X % Y : Nat) : Int) < (Y : Int) by omega) (M2.lt (by decide)))
      omega
    · simp only [mval_eq M4, mval_eq M2]; omega
  · have hY : Y = 0 := by omega
    subst hY
    rw [Nat.gcd_zero_right] at hg
    refine make1_spec M1 k1 ?_
    intro s1 i1
    refine ⟨_, _, _, _, rfl, hK _ _ _ _ _ hle ?_⟩
    rw [hg] at i1
    exact i1
theorem bits_spec (i : NI h s A n c z) (hz : ZB m z) (hm : m ≤ 1000000000) (hK : K (I (blen z.natAbs)) h) : FCall Tryz.prog f_NBits #[.agg #[.bool s, .slice A n c]] h K := by
  have hl := i.len hz hm
  have h0 := i.zero_iff
  refine NBits_ok _ _ _ _ ?_
  unfold NBits
  refine Br.beq (fun e => ?_) (fun e => ?_)
  · have : z = 0 := h0.1 (by omega)
    subst this; exact hK
  · obtain ⟨xs, hxl, sx, dx, nx, hv⟩ := i.mag
    obtain ⟨k, hk⟩ : ∃ k, xs.length = k + 1 := ⟨xs.length - 1, by omega⟩
    have e1 : wi64 ((n : Int) - 1) = (k : Int) := by rw [wi64_id (by omega) (by omega)]; omega
    have e2 : wi64 (32 * (k : Int)) = ((32 * k : Nat) : Int) := by rw [wi64_id (by omega) (by omega)]; omega
    rw [e1, e2]
    refine sx.load hxl (by omega) (by omega) ?_
    rw [Int.toNat_natCast]
    have gx := dig32 dx k
    have ht := top_ne hk nx
    have hb : 32 * k + blen (xs.getD k 0).toNat = blen z.natAbs := by
      have v1 := val_take_succ2 b32 xs k
      rw [← hk, List.take_length] at v1
      have v2 := val_lt (by decide) (dx.take k)
      have v3 := val_nonneg (by decide) (dx.take k)
      rw [List.length_take, Nat.min_eq_left (by omega)] at v2
      have ep : b32 ^ k = ((2 ^ (32 * k) : Nat) : Int) := by
        rw [show b32 = (2 : Int) ^ 32 by decide, ← Int.pow_mul]; simp
      have e3 : z.natAbs = (val b32 (xs.take k)).toNat + 2 ^ (32 * k) * (xs.getD k 0).toNat := by
        have : ((z.natAbs : Nat) : Int) = (((val b32 (xs.take k)).toNat + 2 ^ (32 * k) * (xs.getD k 0).toNat : Nat) : Int) := by
          rw [← hv, v1, Int.natCast_add, Int.natCast_mul, ← ep, Int.toNat_of_nonneg v3, Int.toNat_of_nonneg gx.1]
        omega
      rw [e3, blen_shift (by omega) (by omega)]
    refine ⟨fun l hp => ∃ (t k : Nat), l = [I k, U32 t] ∧ hp = h ∧ k + blen t = blen z.natAbs ∧ t < 4294967296, fun l _ => (iAt l 1).toNat, ⟨(xs.getD k 0).toNat, 32 * k, ?_, rfl, hb, by omega⟩, ?_⟩
    · rw [Int.toNat_of_nonneg gx.1]
    · rintro k2 t2 hp ⟨t, k3, hli, rfl, hbl, htl⟩
      obtain ⟨rfl, rfl⟩ : k2 = (k3 : Int) ∧ t2 = (t : Int) := by simpa using hli
      have hbz : blen z.natAbs ≤ m := blen_le hz
      refine Br.dec (fun h1 => ?_) (fun h1 => ?_)
      · have e3 : Int.fdiv (t : Int) (2 ^ (min ((1 : Int)).toNat 32)) = ((t / 2 : Nat) : Int) := by
          rw [show (2 : Int) ^ (min ((1 : Int)).toNat 32) = 2 by decide, Int.fdiv_eq_ediv_of_nonneg _ (by decide)]; omega
        have hh := blen_half (n := t) (by omega)
        have e4 : wi64 ((k3 : Int) + 1) = ((k3 + 1 : Nat) : Int) := by rw [wi64_id (by omega) (by omega)]; omega
        rw [e3, e4]
        exact ⟨⟨t / 2, k3 + 1, rfl, rfl, by omega, by omega⟩, by simp only [iAt, List.getElem?_cons_zero, List.getElem?_cons_succ]; omega⟩
      · have : t = 0 := by omega
        subst this
        rw [blen_zero, Nat.add_zero] at hbl
        rw [hbl]; exact hK
end
/-- the cells of a rational number -/
structure QV where
  s : Bool
  A : Option Addr
  n : Nat
  c : Nat
  s2 : Bool
  A2 : Option Addr
  n2 : Nat
  c2 : Nat
abbrev QV.v (w : QV) : Value := .agg #[.bool w.s, .slice w.A w.n w.c, .bool w.s2, .slice w.A2 w.n2 w.c2]
structure NQ (h : Heap) (w : QV) (q : Rat) : Prop where
  num : NI h w.s w.A w.n w.c q.num
  den : NI h w.s2 w.A2 w.n2 w.c2 (if q.den = 1 then 0 else (q.den : Int))
/-- at most that many bits above and below -/
structure Sz (m : Nat) (q : Rat) : Prop where
  num : ZB m q.num
  den : ZB m q.den
theorem Sz.mono {m n : Nat} {q : Rat} (h : Sz m q) (hm : m ≤ n) : Sz n q := ⟨h.num.mono hm, h.den.mono hm⟩
theorem Sz.neg {m : Nat} {q : Rat} (h : Sz m q) : Sz m (-q) := ⟨by rw [Rat.neg_num]; exact h.num.neg, by rw [Rat.neg_den]; exact h.den⟩
theorem divInt_le {a b : Int} (hb : b ≠ 0) : (Rat.divInt a b).num.natAbs ≤ a.natAbs ∧ (Rat.divInt a b).den ≤ b.natAbs := by
  have hg : 0 < Int.gcd b a := Int.gcd_pos_of_ne_zero_left a hb
  rw [Rat.num_divInt, Rat.den_divInt, if_neg hb]
  constructor
  · have hd : (Int.gcd b a : Int) ∣ b.sign * a := Int.dvd_mul_of_dvd_right (Int.gcd_dvd_right b a)
    rw [Int.natAbs_ediv_of_dvd hd, Int.natAbs_mul, Int.natAbs_natCast]
    have : b.sign.natAbs = 1 := by
      rw [Int.natAbs_sign]; simp [hb]
    rw [this, Nat.one_mul]
    exact Nat.div_le_self _ _
  · exact Nat.div_le_self _ _
theorem Sz.divInt {m : Nat} {a b : Int} (hb : b ≠ 0) (h1 : ZB m a) (h2 : ZB m b) : Sz m (Rat.divInt a b) := by
  have := divInt_le (a := a) hb
  exact ⟨h1.le this.1, h2.le (by simpa using this.2)⟩
theorem add_divInt (p q : Rat) : p + q = Rat.divInt (p.num * q.den + q.num * p.den) (p.den * q.den) := by
  rw [Rat.add_def', ← Int.natCast_mul, Rat.divInt_ofNat]
theorem mul_divInt (p q : Rat) : p * q = Rat.divInt (p.num * q.num) (p.den * q.den) := by
  rw [Rat.mul_def', ← Int.natCast_mul, Rat.divInt_ofNat]
theorem divInt_one (z : Int) : Rat.divInt z 1 = (z : Rat) := by
  show Rat.divInt z ((1 : Nat) : Int) = _
  rw [Rat.divInt_ofNat]
  apply Rat.ext
  · rw [Rat.num_mkRat]; simp
  · rw [Rat.den_mkRat]; simp
theorem den_ne (q : Rat) : (q.den : Int) ≠ 0 := by have := q.den_nz; omega
theorem div_divInt (p q : Rat) : p / q = Rat.divInt (p.num * q.den) (p.den * q.num) := by
  rw [Rat.div_def, ← Rat.num_divInt_den p, ← Rat.num_divInt_den q, Rat.inv_divInt, Rat.divInt_mul_divInt]
  rw [Rat.num_divInt_den, Rat.num_divInt_den]
theorem Sz.add {m n : Nat} {p q : Rat} (hp : Sz m p) (hq : Sz n q) : Sz (m + n + 1) (p + q) := by
  rw [add_divInt]
  refine Sz.divInt (Int.mul_ne_zero (den_ne p) (den_ne q)) ?_ ((hp.den.mul hq.den).mono (by omega))
  exact (hp.num.mul hq.den).add ((hq.num.mul hp.den).mono (by omega))
theorem Sz.sub {m n : Nat} {p q : Rat} (hp : Sz m p) (hq : Sz n q) : Sz (m + n + 1) (p - q) := by
  rw [Rat.sub_eq_add_neg]; exact hp.add hq.neg
theorem Sz.mul {m n : Nat} {p q : Rat} (hp : Sz m p) (hq : Sz n q) : Sz (m + n) (p * q) := by
  rw [mul_divInt]
  exact Sz.divInt (Int.mul_ne_zero (den_ne p) (den_ne q)) (hp.num.mul hq.num) (hp.den.mul hq.den)
theorem Sz.zero {m : Nat} (hm : 1 ≤ m) : Sz m 0 := ⟨ZB.zero, ZB.one hm⟩
theorem Sz.inv {m : Nat} {q : Rat} (h : Sz m q) (hm : 1 ≤ m) : Sz m q⁻¹ := by
  constructor
  · rw [Rat.num_inv]
    refine h.den.le ?_
    rw [Int.natAbs_mul]
    by_cases h0 : q.num = 0
    · rw [h0]; simp
    · rw [Int.natAbs_sign]; simp [h0]
  · rw [Rat.den_inv]
    split
    · exact ZB.one hm
    · have := h.num
      unfold ZB at *
      simpa using this
theorem Sz.div {m n : Nat} {p q : Rat} (hp : Sz m p) (hq : Sz n q) (hn : 1 ≤ n) : Sz (m + n) (p / q) := by
  rw [Rat.div_def]; exact hp.mul (hq.inv hn)
theorem Sz.int {m : Nat} {z : Int} (h : ZB m z) (hm : 1 ≤ m) : Sz m (z : Rat) := ⟨by simpa using h, by simpa using ZB.one hm⟩
section
variable {h h' : Heap} {K : Value → Heap → Prop} {A B : Option Addr} {n c n' c' : Nat} {s s' : Bool} {x y z : Int} {m : Nat} {p q : Rat} {a b w : QV}
theorem NQ.mono (hl : h.le h') (i : NQ h w q) : NQ h' w q := ⟨i.num.mono hl, i.den.mono hl⟩
theorem NQ.whole (i : NI h s A n c z) {B : Option Addr} : NQ h ⟨s, A, n, c, false, B, 0, 0⟩ (z : Rat) := ⟨by simpa using i, by simpa using NI.nil⟩
theorem NQ.den_zero (i : NQ h w q) : w.n2 = 0 ↔ q.den = 1 := by
  rw [i.den.zero_iff]
  have := q.den_nz
  split <;> omega
theorem NQ.zero : NQ h ⟨false, none, 0, 0, false, none, 0, 0⟩ 0 := ⟨NI.nil, NI.nil⟩
theorem den1_spec (i : NQ h w q) (hK : ∀ s A n c h', h.le h' → NI h' s A n c q.den → K (.agg #[.bool s, .slice A n c]) h') : FCall Tryz.prog f_NDen1 #[w.v] h K := by
  refine NDen1_ok _ _ _ _ _ _ _ _ ?_
  unfold NDen1
  have h0 := i.den_zero
  refine Br.beq (fun e => ?_) (fun e => ?_)
  · refine fromInt_spec (by decide) ?_
    intro s A n c h1 l1 i1
    refine ⟨_, _, _, _, rfl, hK _ _ _ _ _ l1 ?_⟩
    rw [h0.1 (by omega)]; exact i1
  · have hd := i.den
    rw [if_neg (fun e1 => e (by have := h0.2 e1; omega))] at hd
    exact hK _ _ _ _ _ (Heap.le_refl h) hd
theorem frac_spec (ix : NI h s A n c x) (iy : NI h s' B n' c' y) (hy0 : y ≠ 0) (hx : ZB m x) (hy : ZB m y) (hm : m ≤ 1000000000) (hK : ∀ w h', h.le h' → NQ h' w (Rat.divInt x y) → K w.v h') : FCall Tryz.prog f_NFrac #[.agg #[.bool s, .slice A n c], .agg #[.bool s', .slice B n' c']] h K := by
  refine NFrac_ok _ _ _ _ _ _ _ _ ?_
  unfold NFrac
  refine ⟨fun l hp => ∃ s A n c s' B n' c' x' y', l = [.bool s, .slice A n c, .bool s', .slice B n' c'] ∧ h.le hp ∧ NI hp s A n c x' ∧ NI hp s' B n' c' y' ∧ 0 < y' ∧ Rat.divInt x' y' = Rat.divInt x y ∧ ZB m x' ∧ ZB m y', Br.of (fun e => ?_) (fun e => ?_), ?_⟩
  · have hneg : y < 0 := by have := iy.sg; rw [e] at this; simpa using this.symm
    refine neg_spec ix ?_
    intro s1 i1
    refine ⟨_, _, _, _, rfl, Heap.le_refl h, ?_⟩
    refine neg_spec iy ?_
    intro s2 i2
    exact ⟨_, _, _, _, rfl, Heap.le_refl h, _, _, _, _, _, _, _, _, -x, -y, rfl, Heap.le_refl h, i1, i2, by omega, Rat.neg_divInt_neg x y, hx.neg, hy.neg⟩
  · have hpos : 0 < y := by have := iy.sg; rw [e] at this; have : ¬ y < 0 := by simpa using this.symm
                            omega
    exact ⟨_, _, _, _, _, _, _, _, x, y, rfl, Heap.le_refl h, ix, iy, hpos, rfl, hx, hy⟩
  rintro s1 A1 n1 c1 s2 A2 n2 c2 hp2 ⟨s1', A1', n1', c1', s2', A2', n2', c2', x', y', hl, hle, i1, i2, hpos, hq, hx', hy'⟩
  obtain ⟨rfl, ⟨rfl, rfl, rfl⟩, rfl, rfl, rfl, rfl⟩ : s1 = s1' ∧ (A1 = A1' ∧ n1 = n1' ∧ c1 = c1') ∧ s2 = s2' ∧ A2 = A2' ∧ n2 = n2' ∧ c2 = c2' := by simpa using hl
  refine gcd_spec i1 i2 hx' hy' hm ?_
  intro s3 A3 n3 c3 h3 l3 i3
  refine ⟨_, _, _, _, rfl, ?_⟩
  rw [← hq] at hK
  generalize hqq : Rat.divInt x' y' = q at *
  have hnum : q.num = x' / (Int.gcd x' y' : Int) := by
    rw [← hqq, Rat.num_divInt, Int.sign_eq_one_of_pos hpos, Int.one_mul, Int.gcd_comm]
  have hden : (q.den : Int) = y' / (Int.gcd x' y' : Int) := by
    rw [← hqq, Rat.den_divInt, if_neg (by omega), Int.gcd_comm, Int.natCast_ediv, Int.natAbs_of_nonneg (by omega)]
  have hg1 : 0 < Int.gcd x' y' := Int.gcd_pos_of_ne_zero_right x' (by omega)
  have hgm : ZB m (Int.gcd x' y' : Int) := by
    refine hy'.le ?_
    rw [Int.natAbs_natCast]
    exact Nat.le_of_dvd (by omega) (by have := Int.gcd_dvd_right x' y'; exact Int.ofNat_dvd_left.1 this)
  refine ⟨fun l hp => ∃ s A n c s' B n' c', l = [.bool s, .slice A n c, .bool s', .slice B n' c'] ∧ h.le hp ∧ NI hp s A n c q.num ∧ NI hp s' B n' c' q.den, ?_, ?_⟩
  · refine bits_spec i3 hgm hm ⟨_, rfl, ?_⟩
    rw [Int.natAbs_natCast]
    refine Br.dec (fun e => ?_) (fun e => ?_)
    · refine quoRem_spec (i1.mono l3) i3 (by omega) hx' hgm hm ?_
      intro s4 A4 n4 c4 s5 A5 n5 c5 h4 l4 i4 _
      refine ⟨_, _, _, _, _, _, _, _, rfl, ?_⟩
      refine quoRem_spec ((i2.mono l3).mono l4) (i3.mono l4) (by omega) hy' hgm hm ?_
      intro s6 A6 n6 c6 s7 A7 n7 c7 h5 l5 i6 _
      have e1 : x'.tdiv (Int.gcd x' y' : Int) = q.num := by rw [hnum, Int.tdiv_eq_ediv_of_dvd (Int.gcd_dvd_left x' y')]
      have e2 : y'.tdiv (Int.gcd x' y' : Int) = q.den := by rw [hden, Int.tdiv_eq_ediv_of_dvd (Int.gcd_dvd_right x' y')]
      rw [e1] at i4
      rw [e2] at i6
      exact ⟨_, _, _, _, _, _, _, _, rfl, _, _, _, _, _, _, _, _, rfl, Heap.le_trans hle (Heap.le_trans l3 (Heap.le_trans l4 l5)), i4.mono l5, i6⟩
    · have hg : Int.gcd x' y' = 1 := by
        have : ¬ 1 < blen (Int.gcd x' y') := by omega
        rw [blen_gt_one] at this; omega
      rw [hg] at hnum hden
      simp at hnum hden
      exact ⟨_, _, _, _, _, _, _, _, rfl, Heap.le_trans hle l3, by rw [hnum]; exact i1.mono l3, by rw [hden]; exact i2.mono l3⟩
  rintro s4 A4 n4 c4 s5 A5 n5 c5 hp7 ⟨s4', A4', n4', c4', s5', A5', n5', c5', hl2, hle2, i4, i5⟩
  obtain ⟨rfl, ⟨rfl, rfl, rfl⟩, rfl, rfl, rfl, rfl⟩ : s4 = s4' ∧ (A4 = A4' ∧ n4 = n4' ∧ c4 = c4') ∧ s5 = s5' ∧ A5 = A5' ∧ n5 = n5' ∧ c5 = c5' := by simpa using hl2
  have hqd : ZB m (q.den : Int) := by
    refine hy'.le ?_
    have := (divInt_le (a := x') (b := y') (by omega)).2
    rw [hqq] at this
    simpa using this
  refine ⟨fun l hp => ∃ s' B n' c', l = [.bool s', .slice B n' c'] ∧ hp = hp7 ∧ NI hp s' B n' c' (if q.den = 1 then 0 else (q.den : Int)), ?_, ?_⟩
  · refine bits_spec i5 hqd hm ⟨_, rfl, ?_⟩
    rw [Int.natAbs_natCast]
    refine Br.beq (fun e => ?_) (fun e => ?_)
    · have : q.den = 1 := blen_one.1 (by omega)
      exact ⟨_, _, _, _, rfl, rfl, by rw [if_pos this]; exact NI.nil⟩
    · have : ¬ q.den = 1 := fun e1 => e (by rw [e1]; rfl)
      exact ⟨_, _, _, _, rfl, rfl, by rw [if_neg this]; exact i5⟩
  rintro s6 A6 n6 c6 hp9 ⟨s6', A6', n6', c6', hl3, rfl, i6⟩
  obtain ⟨rfl, rfl, rfl, rfl⟩ : s6 = s6' ∧ A6 = A6' ∧ n6 = n6' ∧ c6 = c6' := by simpa using hl3
  exact hK ⟨s4, A4, n4, c4, s6, A6, n6, c6⟩ _ hle2 ⟨i4, i6⟩
theorem r_spec (hz : -9223372036854775808 ≤ z ∧ z ≤ 9223372036854775807) (hK : ∀ w h', h.le h' → NQ h' w (z : Rat) → K w.v h') : FCall Tryz.prog f_NR #[I z] h K := by
  refine NR_ok _ ?_
  unfold NR
  refine fromInt_spec hz ?_
  intro s A n c h1 l1 i1
  exact ⟨_, _, _, _, rfl, hK ⟨s, A, n, c, false, none, 0, 0⟩ _ l1 (NQ.whole i1)⟩
theorem rsign_spec (i : NQ h w q) (hK : K (I q.num.sign) h) : FCall Tryz.prog f_NRSign #[w.v] h K := by
  refine NRSign_ok _ _ _ _ _ _ _ _ ?_
  unfold NRSign
  exact sign_spec i.num ⟨_, rfl, hK⟩
theorem rneg_spec (i : NQ h w q) (hK : ∀ w, NQ h w (-q) → K w.v h) : FCall Tryz.prog f_NRNeg #[w.v] h K := by
  refine NRNeg_ok _ _ _ _ _ _ _ _ ?_
  unfold NRNeg
  refine neg_spec i.num ?_
  intro s1 i1
  exact ⟨_, _, _, _, rfl, Heap.le_refl h, hK ⟨s1, w.A, w.n, w.c, w.s2, w.A2, w.n2, w.c2⟩ ⟨i1, i.den⟩⟩
theorem radd_spec (ia : NQ h a p) (ib : NQ h b q) (hp : Sz m p) (hq : Sz m q) (hm : m ≤ 400000000) (hK : ∀ w h', h.le h' → NQ h' w (p + q) → K w.v h') : FCall Tryz.prog f_NRAdd #[a.v, b.v] h K := by
  have ha0 := ia.den_zero
  have hb0 := ib.den_zero
  refine NRAdd_ok _ _ _ _ _ _ _ _ _ _ _ _ _ _ _ _ ?_
  unfold NRAdd
  refine ⟨fun l h' => l = [.bool (decide (p.den = 1 ∧ q.den = 1))] ∧ h' = h, Br.beq (fun e => ?_) (fun e => ?_), ?_⟩
  · have h1 : p.den = 1 := ha0.1 (by omega)
    refine ⟨?_, rfl⟩
    have : ((b.n2 : Int) == 0) = decide (p.den = 1 ∧ q.den = 1) := by
      rw [Bool.eq_iff_iff]; simp [h1]; omega
    rw [this]
  · have h1 : ¬ p.den = 1 := fun e1 => e (by have := ha0.2 e1; omega)
    exact ⟨by simp [h1], rfl⟩
  rintro t hp1 ⟨hl, rfl⟩
  obtain rfl : t = decide (p.den = 1 ∧ q.den = 1) := by simpa using hl
  have zpn := hp.num; have zpd := hp.den; have zqn := hq.num; have zqd := hq.den
  refine Br.dec (fun e => ?_) (fun e => ?_)
  · refine add_spec ia.num ib.num zpn zqn (by omega) ?_
    intro s1 A1 n1 c1 h1 l1 i1
    refine ⟨_, _, _, _, rfl, hK ⟨s1, A1, n1, c1, false, none, 0, 0⟩ _ l1 ?_⟩
    have : p + q = ((p.num + q.num : Int) : Rat) := by
      rw [add_divInt, e.1, e.2]
      show Rat.divInt (p.num * 1 + q.num * 1) (1 * 1) = _
      rw [Int.mul_one, Int.mul_one, Int.mul_one, divInt_one]
    rw [this]; exact NQ.whole i1
  · refine den1_spec ib ?_
    intro s1 A1 n1 c1 h1 l1 i1
    refine ⟨_, _, _, _, rfl, l1, ?_⟩
    refine mul_spec (ia.num.mono l1) i1 zpn zqd (by omega) (by omega) ?_
    intro s2 A2 n2 c2 h2 l2 i2
    refine ⟨_, _, _, _, rfl, l2, ?_⟩
    refine den1_spec (ia.mono (Heap.le_trans l1 l2)) ?_
    intro s3 A3 n3 c3 h3 l3 i3
    refine ⟨_, _, _, _, rfl, l3, ?_⟩
    have l13 := Heap.le_trans l1 (Heap.le_trans l2 l3)
    refine mul_spec (ib.num.mono l13) i3 zqn zpd (by omega) (by omega) ?_
    intro s4 A4 n4 c4 h4 l4 i4
    refine ⟨_, _, _, _, rfl, l4, ?_⟩
    refine add_spec (i2.mono (Heap.le_trans l3 l4)) i4 (zpn.mul zqd) (zqn.mul zpd) (by omega) ?_
    intro s5 A5 n5 c5 h5 l5 i5
    refine ⟨_, _, _, _, rfl, l5, ?_⟩
    have l15 := Heap.le_trans l13 (Heap.le_trans l4 l5)
    refine den1_spec (ia.mono l15) ?_
    intro s6 A6 n6 c6 h6 l6 i6
    refine ⟨_, _, _, _, rfl, l6, ?_⟩
    refine den1_spec (ib.mono (Heap.le_trans l15 l6)) ?_
    intro s7 A7 n7 c7 h7 l7 i7
    refine ⟨_, _, _, _, rfl, l7, ?_⟩
    refine mul_spec (i6.mono l7) i7 zpd zqd (by omega) (by omega) ?_
    intro s8 A8 n8 c8 h8 l8 i8
    refine ⟨_, _, _, _, rfl, l8, ?_⟩
    refine frac_spec (m := m + m + 1) (i5.mono (Heap.le_trans l6 (Heap.le_trans l7 l8))) i8 (Int.mul_ne_zero (den_ne p) (den_ne q)) ((zpn.mul zqd).add (zqn.mul zpd)) ((zpd.mul zqd).mono (by omega)) (by omega) ?_
    intro w h9 l9 i9
    rw [← add_divInt] at i9
    exact ⟨_, _, _, _, _, _, _, _, rfl, l9, hK w _ (Heap.le_trans l15 (Heap.le_trans l6 (Heap.le_trans l7 (Heap.le_trans l8 l9)))) i9⟩
theorem rsub_spec (ia : NQ h a p) (ib : NQ h b q) (hp : Sz m p) (hq : Sz m q) (hm : m ≤ 400000000) (hK : ∀ w h', h.le h' → NQ h' w (p - q) → K w.v h') : FCall Tryz.prog f_NRSub #[a.v, b.v] h K := by
  refine NRSub_ok _ _ _ _ _ _ _ _ _ _ _ _ _ _ _ _ ?_
  unfold NRSub
  refine rneg_spec ib ?_
  intro w i
  refine ⟨_, _, _, _, _, _, _, _, rfl, Heap.le_refl h, ?_⟩
  refine radd_spec ia i hp hq.neg hm ?_
  intro w2 h2 l2 i2
  rw [← Rat.sub_eq_add_neg] at i2
  exact ⟨_, _, _, _, _, _, _, _, rfl, l2, hK w2 _ l2 i2⟩
theorem rdiv_spec (ia : NQ h a p) (ib : NQ h b q) (hp : Sz m p) (hq : Sz m q) (hm : m ≤ 400000000) (hK : ∀ w h', h.le h' → NQ h' w (p / q) → K w.v h') : FCall Tryz.prog f_NRDiv #[a.v, b.v] h K := by
  refine NRDiv_ok _ _ _ _ _ _ _ _ _ _ _ _ _ _ _ _ ?_
  unfold NRDiv
  have zpn := hp.num; have zpd := hp.den; have zqn := hq.num; have zqd := hq.den
  refine rsign_spec ib ⟨_, rfl, Br.beq (fun e => ?_) (fun e => ?_)⟩
  · have h0 : q = 0 := Rat.num_eq_zero.1 (Int.sign_eq_zero_iff_zero.1 e)
    have := hK ⟨false, none, 0, 0, false, none, 0, 0⟩ h (Heap.le_refl h) (by rw [h0, Rat.div_def, Rat.inv_zero, Rat.mul_zero]; exact NQ.zero)
    exact this
  · have hn0 : q.num ≠ 0 := fun e1 => e (by rw [e1]; rfl)
    refine den1_spec ib ?_
    intro s1 A1 n1 c1 h1 l1 i1
    refine ⟨_, _, _, _, rfl, l1, ?_⟩
    refine mul_spec (ia.num.mono l1) i1 zpn zqd (by omega) (by omega) ?_
    intro s2 A2 n2 c2 h2 l2 i2
    refine ⟨_, _, _, _, rfl, l2, ?_⟩
    refine den1_spec (ia.mono (Heap.le_trans l1 l2)) ?_
    intro s3 A3 n3 c3 h3 l3 i3
    refine ⟨_, _, _, _, rfl, l3, ?_⟩
    have l13 := Heap.le_trans l1 (Heap.le_trans l2 l3)
    refine mul_spec i3 (ib.num.mono l13) zpd zqn (by omega) (by omega) ?_
    intro s4 A4 n4 c4 h4 l4 i4
    refine ⟨_, _, _, _, rfl, l4, ?_⟩
    refine frac_spec (m := m + m) (i2.mono (Heap.le_trans l3 l4)) i4 (Int.mul_ne_zero (den_ne p) hn0) (zpn.mul zqd) (zpd.mul zqn) (by omega) ?_
    intro w h9 l9 i9
    rw [← div_divInt] at i9
    exact ⟨_, _, _, _, _, _, _, _, rfl, l9, hK w _ (Heap.le_trans l13 (Heap.le_trans l4 l9)) i9⟩
theorem rcmp_spec (ia : NQ h a p) (ib : NQ h b q) (hp : Sz m p) (hq : Sz m q) (hm : m ≤ 400000000) (hK : K (I (p - q).num.sign) h) : FCall Tryz.prog f_NRCmp #[a.v, b.v] h K := by
  refine FCall.pure (NRCmp_ok _ _ _ _ _ _ _ _ _ _ _ _ _ _ _ _ ?_)
  unfold NRCmp
  refine rsub_spec ia ib hp hq hm ?_
  intro w h1 l1 i1
  refine ⟨_, _, _, _, _, _, _, _, rfl, ?_⟩
  exact rsign_spec i1 ⟨_, rfl, l1, hK⟩
theorem floor_tdiv (q : Rat) : q.floor = if q.num.tmod q.den < 0 then q.num.tdiv q.den - 1 else q.num.tdiv q.den := by
  rw [Rat.floor_def]
  have hd : (0 : Int) < q.den := by have := q.den_nz; omega
  have h1 := Int.mul_tdiv_add_tmod q.num q.den
  by_cases h0 : 0 ≤ q.num
  · rw [Int.tdiv_eq_ediv_of_nonneg h0, Int.tmod_eq_emod_of_nonneg h0, if_neg (by have := Int.emod_nonneg q.num (show (q.den : Int) ≠ 0 by omega); omega)]
  · have hm : q.num.tmod q.den ≤ 0 := by
      obtain ⟨k, hk⟩ : ∃ k : Nat, q.num = -(k : Int) := ⟨q.num.natAbs, by omega⟩
      rw [hk, Int.neg_tmod]
      have := Int.tmod_nonneg (q.den : Int) (show (0 : Int) ≤ k by omega)
      omega
    have hm2 := Int.lt_tmod_of_pos q.num hd
    have e : q.num = q.num.tmod q.den + q.num.tdiv q.den * q.den := by rw [Int.mul_comm (q.num.tdiv _)]; omega
    by_cases hz : q.num.tmod q.den < 0
    · rw [if_pos hz]
      have : q.num = (q.num.tmod q.den + q.den) + (q.num.tdiv q.den - 1) * q.den := by
        have : (q.num.tdiv q.den - 1) * q.den = q.num.tdiv q.den * q.den - q.den := by grind
        omega
      conv => lhs; rw [this]
      rw [Int.add_mul_ediv_right _ _ (by omega), Int.ediv_eq_zero_of_lt (by omega) (by omega), Int.zero_add]
    · rw [if_neg hz]
      have hz0 : q.num.tmod q.den = 0 := by omega
      rw [hz0] at e
      conv => lhs; rw [e]
      rw [Int.zero_add, Int.mul_ediv_cancel _ (by omega)]
theorem floor_spec (i : NQ h w q) (hq : Sz m q) (hm : m ≤ 400000000) (hm1 : 1 ≤ m) (hK : ∀ s A n c h', h.le h' → NI h' s A n c q.floor → K (.agg #[.bool s, .slice A n c]) h') : FCall Tryz.prog f_NFloor #[w.v] h K := by
  refine NFloor_ok _ _ _ _ _ _ _ _ ?_
  unfold NFloor
  refine den1_spec i ?_
  intro s1 A1 n1 c1 h1 l1 i1
  refine ⟨_, _, _, _, rfl, l1, ?_⟩
  refine quoRem_spec (i.num.mono l1) i1 (den_ne q) hq.num hq.den (by omega) ?_
  intro s2 A2 n2 c2 s3 A3 n3 c3 h2 l2 i2 i3
  refine ⟨_, _, _, _, _, _, _, _, rfl, l2, ?_⟩
  rw [floor_tdiv] at hK
  refine Br.of (fun e => ?_) (fun e => ?_)
  · have hneg : q.num.tmod q.den < 0 := by have := i3.sg; rw [e] at this; simpa using this.symm
    rw [if_pos hneg] at hK
    refine fromInt_spec (by decide) ?_
    intro s4 A4 n4 c4 h4 l4 i4
    refine ⟨_, _, _, _, rfl, l4, ?_⟩
    refine sub_spec (m := m) (i2.mono l4) i4 ?_ (ZB.one hm1) (by omega) ?_
    · refine hq.num.le ?_
      rw [Int.natAbs_tdiv]; exact Nat.div_le_self _ _
    · intro s5 A5 n5 c5 h5 l5 i5
      exact ⟨_, _, _, _, rfl, l5, hK _ _ _ _ _ (Heap.le_trans l1 (Heap.le_trans l2 (Heap.le_trans l4 l5))) i5⟩
  · have hneg : ¬ q.num.tmod q.den < 0 := by have := i3.sg; rw [e] at this; simpa using this.symm
    rw [if_neg hneg] at hK
    exact hK _ _ _ _ _ (Heap.le_trans l1 l2) i2
end
end Go.Proofs.YtgnclfejnndicaaGreatDoor
/-
  Decimal digits of natural numbers as lists of bytes; no program here.
-/
namespace Go.Proofs.YtgnclfejnndicaaGreatDoor
open Go

/-- the byte of a digit -/
def dch (d : Nat) : UInt8 := UInt8.ofNat (48 + d)
theorem dch_toNat {d : Nat} (h : d < 10) : (dch d).toNat = 48 + d := by
  unfold dch; rw [UInt8.toNat_ofNat']; omega
def isDig (c : UInt8) : Prop := 48 ≤ c.toNat ∧ c.toNat ≤ 57
instance (c : UInt8) : Decidable (isDig c) := by unfold isDig; infer_instance
theorem dch_dig {d : Nat} (h : d < 10) : isDig (dch d) := by unfold isDig; rw [dch_toNat h]; omega
theorem dch_of {c : UInt8} (h : isDig c) : dch (c.toNat - 48) = c := by
  unfold isDig at h
  apply UInt8.toNat_inj.1
  rw [dch_toNat (by omega)]; omega
/-- the digits without zeros ahead; nothing for 0 -/
def dd (n : Nat) : List UInt8 := if h : n = 0 then [] else dd (n / 10) ++ [dch (n % 10)]
theorem dd_zero : dd 0 = [] := by unfold dd; simp
theorem dd_pos {n : Nat} (h : n ≠ 0) : dd n = dd (n / 10) ++ [dch (n % 10)] := by rw [dd]; simp [h]
def dval (l : List UInt8) : Nat := l.foldl (fun a c => 10 * a + (c.toNat - 48)) 0
theorem dval_snoc (l : List UInt8) (c : UInt8) : dval (l ++ [c]) = 10 * dval l + (c.toNat - 48) := by simp [dval]
theorem dval_go (l : List UInt8) : ∀ a, l.foldl (fun a c => 10 * a + (c.toNat - 48)) a = a * 10 ^ l.length + dval l := by
  induction l with
  | nil => intro a; simp [dval]
  | cons c l ih =>
    intro a
    unfold dval
    rw [List.foldl_cons, List.foldl_cons, ih, ih, List.length_cons, Nat.pow_succ]
    grind
theorem dval_append (a b : List UInt8) : dval (a ++ b) = dval a * 10 ^ b.length + dval b := by
  unfold dval; rw [List.foldl_append, dval_go b]; rfl
theorem dval_cons (c : UInt8) (l : List UInt8) : dval (c :: l) = (c.toNat - 48) * 10 ^ l.length + dval l := by
  rw [← List.singleton_append, dval_append]; simp [dval]
theorem dval_lt {l : List UInt8} (h : ∀ c ∈ l, isDig c) : dval l < 10 ^ l.length := by
  induction l with
  | nil => simp [dval]
  | cons c l ih =>
    have h1 := ih fun x hx => h x (by simp [hx])
    have h2 := h c (by simp)
    unfold isDig at h2
    rw [dval_cons, List.length_cons, Nat.pow_succ]
    have : (c.toNat - 48) * 10 ^ l.length ≤ 9 * 10 ^ l.length := Nat.mul_le_mul_right _ (by omega)
    omega
theorem dval_dd (n : Nat) : dval (dd n) = n := by
  induction n using Nat.strongRecOn with
  | _ n ih =>
    by_cases h : n = 0
    · subst h; rw [dd_zero]; rfl
    · rw [dd_pos h, dval_snoc, ih _ (by omega), dch_toNat (by omega)]; omega
theorem dd_dig (n : Nat) : ∀ c ∈ dd n, isDig c := by
  induction n using Nat.strongRecOn with
  | _ n ih =>
    by_cases h : n = 0
    · subst h; rw [dd_zero]; simp
    · rw [dd_pos h]
      intro c hc
      rcases List.mem_append.1 hc with h1 | h1
      · exact ih _ (by omega) c h1
      · rw [List.mem_singleton.1 h1]; exact dch_dig (by omega)
theorem dd_ne {n : Nat} (h : n ≠ 0) : dd n ≠ [] := by rw [dd_pos h]; simp
theorem dd_head (n : Nat) (h : n ≠ 0) : (dd n).head? ≠ some 48 := by
  induction n using Nat.strongRecOn with
  | _ n ih =>
    rw [dd_pos h]
    by_cases h1 : n / 10 = 0
    · rw [h1, dd_zero]
      simp only [List.nil_append, List.head?_cons, ne_eq, Option.some.injEq]
      intro e
      have := dch_toNat (d := n % 10) (by omega)
      rw [e] at this
      simp at this
      omega
    · have := ih _ (by omega) h1
      obtain ⟨c, r, e⟩ := List.exists_cons_of_ne_nil (dd_ne h1)
      rw [e] at this ⊢
      simpa using this
/-- a list of digits without a zero ahead is that of its number -/
theorem dd_dval {l : List UInt8} (h : ∀ c ∈ l, isDig c) (h0 : l.head? ≠ some 48) : dd (dval l) = l := by
  obtain ⟨n, hn⟩ : ∃ n, l.length = n := ⟨_, rfl⟩
  induction n generalizing l with
  | zero => rw [List.eq_nil_of_length_eq_zero hn]; exact dd_zero
  | succ n ih =>
    obtain ⟨m, c, rfl⟩ : ∃ m c, l = m ++ [c] := by
      refine ⟨l.dropLast, l.getLast (by rintro rfl; simp at hn), ?_⟩
      rw [List.dropLast_concat_getLast]
    have hc := h c (by simp)
    have hc' := hc
    unfold isDig at hc'
    rw [dval_snoc]
    cases m with
    | nil =>
      simp at h0
      have hne : c.toNat - 48 ≠ 0 := by
        intro e
        apply h0
        apply UInt8.toNat_inj.1
        show c.toNat = 48
        omega
      rw [dd_pos (by simp [dval]; omega)]
      simp only [dval, List.foldl_nil, List.nil_append]
      rw [show (10 * 0 + (c.toNat - 48)) / 10 = 0 by omega, dd_zero, show (10 * 0 + (c.toNat - 48)) % 10 = c.toNat - 48 by omega, dch_of hc]; rfl
    | cons d m =>
      have ih' := ih (l := d :: m) (fun x hx => h x (by simp at hx ⊢; rcases hx with h | h <;> simp [h])) (by simpa using h0) (by simpa using hn)
      have hpos : dval (d :: m) ≠ 0 := by
        intro e
        rw [e, dd_zero] at ih'
        cases ih'
      rw [dd_pos (by omega), show (10 * dval (d :: m) + (c.toNat - 48)) / 10 = dval (d :: m) by omega, ih', show (10 * dval (d :: m) + (c.toNat - 48)) % 10 = c.toNat - 48 by omega, dch_of hc]
theorem dd_len_le {n k : Nat} : (dd n).length ≤ k ↔ n < 10 ^ k := by
  induction k generalizing n with
  | zero =>
    constructor
    · intro h
      have : dd n = [] := List.eq_nil_of_length_eq_zero (by omega)
      by_cases h0 : n = 0
      · subst h0; decide
      · exact absurd this (dd_ne h0)
    · intro h
      have : n = 0 := by simp at h; exact h
      subst this; rw [dd_zero]; simp
  | succ k ih =>
    by_cases h0 : n = 0
    · subst h0; rw [dd_zero]; simp [Nat.pow_pos]
    · rw [dd_pos h0, List.length_append, List.length_singleton, Nat.add_le_add_iff_right, ih, Nat.pow_succ]
      omega
/-- with zeros ahead up to a width -/
def pad (w n : Nat) : List UInt8 := List.replicate (w - (dd n).length) 48 ++ dd n
theorem pad_zero (n : Nat) : pad 0 n = dd n := by simp [pad]
theorem pad_length {w n : Nat} (h : n < 10 ^ w) : (pad w n).length = w := by
  have := dd_len_le.2 h
  simp [pad]; omega
theorem pad_succ (w n : Nat) : pad (w + 1) n = pad w (n / 10) ++ [dch (n % 10)] := by
  unfold pad
  by_cases h : n = 0
  · subst h
    rw [dd_zero]
    simp only [List.length_nil, Nat.sub_zero, List.append_nil, Nat.zero_div, Nat.zero_mod, dd_zero]
    rw [List.replicate_succ']; rfl
  · rw [dd_pos h, List.length_append, List.length_singleton, Nat.add_sub_add_right, List.append_assoc]
/-- digits behind digits -/
theorem dd_mul {h l k : Nat} (h0 : h ≠ 0) (hl : l < 10 ^ k) : dd (h * 10 ^ k + l) = dd h ++ pad k l := by
  induction k generalizing l with
  | zero =>
    have : l = 0 := by simpa using hl
    subst this; simp [pad, dd_zero]
  | succ k ih =>
    have hp : 0 < 10 ^ k := Nat.pow_pos (by decide)
    have hne : h * 10 ^ (k + 1) + l ≠ 0 := by
      have : 0 < h * 10 ^ (k + 1) := Nat.mul_pos (by omega) (Nat.pow_pos (by decide))
      omega
    have e1 : (h * 10 ^ (k + 1) + l) / 10 = h * 10 ^ k + l / 10 := by
      rw [Nat.pow_succ, ← Nat.mul_assoc]; omega
    have e2 : (h * 10 ^ (k + 1) + l) % 10 = l % 10 := by
      rw [Nat.pow_succ, ← Nat.mul_assoc]; omega
    rw [dd_pos hne, e1, e2, ih (by rw [Nat.pow_succ] at hl; omega), pad_succ, List.append_assoc]
theorem pad_split {w h l k : Nat} (hl : l < 10 ^ k) (hw : h ≠ 0 ∨ k ≤ w) : pad w (h * 10 ^ k + l) = pad (w - k) h ++ pad k l := by
  by_cases h0 : h = 0
  · subst h0
    have hk : k ≤ w := by
      rcases hw with h | h
      · exact absurd rfl h
      · exact h
    have := dd_len_le.2 hl
    unfold pad
    rw [dd_zero]
    simp only [Nat.zero_mul, Nat.zero_add, List.length_nil, Nat.sub_zero, List.append_nil, ← List.append_assoc, List.replicate_append_replicate]
    congr 2; omega
  · have e := dd_mul h0 hl
    have hlen := pad_length hl
    unfold pad at hlen
    unfold pad at e ⊢
    rw [e, List.length_append, hlen, ← List.append_assoc]
    congr 3; omega
/-- the digits of a number, one for 0 -/
def digs (n : Nat) : List UInt8 := if n = 0 then [48] else dd n
theorem digs_pos {n : Nat} (h : n ≠ 0) : digs n = dd n := by simp [digs, h]
theorem dval_digs (n : Nat) : dval (digs n) = n := by
  unfold digs; split
  · rename_i h; subst h; rfl
  · exact dval_dd n
theorem digs_dig (n : Nat) : ∀ c ∈ digs n, isDig c := by
  unfold digs; split
  · intro c hc; rw [List.mem_singleton.1 hc]; decide
  · exact dd_dig n
theorem digs_ne (n : Nat) : digs n ≠ [] := by
  unfold digs; split
  · simp
  · rename_i h; exact dd_ne h
theorem digs_inj {a b : Nat} (h : digs a = digs b) : a = b := by rw [← dval_digs a, h, dval_digs]
/-- the list of digits of a number: not empty, no zero ahead but for 0 itself -/
theorem digs_dval {l : List UInt8} (h : ∀ c ∈ l, isDig c) (hn : l ≠ []) (h0 : l.head? ≠ some 48 ∨ l = [48]) : digs (dval l) = l := by
  rcases h0 with h0 | h0
  · have := dd_dval h h0
    rw [digs_pos, this]
    intro e
    rw [e, dd_zero] at this
    exact hn this.symm
  · subst h0; rfl
theorem digs_len {n k : Nat} (hk : 0 < k) : (digs n).length ≤ k ↔ n < 10 ^ k := by
  by_cases h : n = 0
  · subst h; have : 0 < 10 ^ k := Nat.pow_pos (by decide); simp [digs]; omega
  · rw [digs_pos h]; exact dd_len_le
end Go.Proofs.YtgnclfejnndicaaGreatDoor
/-
  The text of a rational number, and the form of a text; no program here.
-/
namespace Go.Proofs.YtgnclfejnndicaaGreatDoor
open Go

def txtI (z : Int) : List UInt8 := if z < 0 then 45 :: digs z.natAbs else digs z.natAbs
def txtQ (q : Rat) : List UInt8 := txtI q.num ++ (if q.den = 1 then [] else 47 :: digs q.den)
/-- the parts of a text of the form of a number -/
structure Form (s : List UInt8) (neg : Bool) (a b : List UInt8) : Prop where
  eq : s = (if neg then [45] else []) ++ a ++ (if b = [] then [] else 47 :: b)
  da : ∀ c ∈ a, isDig c
  db : ∀ c ∈ b, isDig c
  ne : a ≠ []
  ha : a.head? ≠ some 48 ∨ (a = [48] ∧ neg = false ∧ b = [])
  hb : b.head? ≠ some 48
  b1 : b ≠ [49]
theorem isDig_ne {c : UInt8} (h : isDig c) : c ≠ 45 ∧ c ≠ 47 := by
  unfold isDig at h
  constructor <;> (rintro rfl; revert h; decide)
theorem span_dig {a r : List UInt8} (h : ∀ c ∈ a, isDig c) (hr : ∀ c, r.head? = some c → ¬ isDig c) : (a ++ r).takeWhile (fun c => decide (isDig c)) = a ∧ (a ++ r).dropWhile (fun c => decide (isDig c)) = r := by
  induction a with
  | nil =>
    cases r with
    | nil => simp
    | cons c r =>
      have := hr c rfl
      simp [this]
  | cons c a ih =>
    have hc := h c (by simp)
    have := ih fun x hx => h x (by simp [hx])
    simp [hc, this]
theorem Form.head {s : List UInt8} {neg : Bool} {a b : List UInt8} (f : Form s neg a b) : neg = (s.head? == some 45) := by
  obtain ⟨c, r, e⟩ := List.exists_cons_of_ne_nil f.ne
  have hc := (isDig_ne (f.da c (by simp [e]))).1
  rw [f.eq, e]
  cases neg <;> simp [hc]
theorem Form.unique {s : List UInt8} {neg neg' : Bool} {a b a' b' : List UInt8} (f : Form s neg a b) (g : Form s neg' a' b') : neg = neg' ∧ a = a' ∧ b = b' := by
  have hn : neg = neg' := by rw [f.head, g.head]
  subst hn
  have e := f.eq.symm.trans g.eq
  rw [List.append_assoc, List.append_assoc] at e
  have e2 := List.append_cancel_left e
  have hr : ∀ b : List UInt8, ∀ c, (if b = [] then [] else 47 :: b : List UInt8).head? = some c → ¬ isDig c := by
    intro b c hc
    split at hc
    · simp at hc
    · simp at hc; subst hc; decide
  have h1 := span_dig f.da (hr b)
  have h2 := span_dig g.da (hr b')
  rw [e2] at h1
  have ea : a = a' := h1.1.symm.trans h2.1
  have eb := h1.2.symm.trans h2.2
  refine ⟨rfl, ea, ?_⟩
  by_cases hb : b = [] <;> by_cases hb' : b' = [] <;> simp [hb, hb'] at eb ⊢
  exact eb
theorem den_of_num_zero {q : Rat} (h : q.num = 0) : q.den = 1 := by
  have := q.reduced
  rw [h] at this
  simpa using this
theorem txtQ_form (q : Rat) : Form (txtQ q) (decide (q.num < 0)) (digs q.num.natAbs) (if q.den = 1 then [] else digs q.den) := by
  constructor
  · unfold txtQ txtI
    by_cases h1 : q.num < 0 <;> by_cases h2 : q.den = 1 <;> simp [h1, h2, digs_ne]
  · exact digs_dig _
  · split
    · simp
    · exact digs_dig _
  · exact digs_ne _
  · by_cases h : q.num = 0
    · right
      rw [den_of_num_zero h, h]; simp [digs]
    · left
      rw [digs_pos (by omega)]; exact dd_head _ (by omega)
  · split
    · simp
    · rw [digs_pos q.den_nz]; exact dd_head _ q.den_nz
  · split
    · simp
    · rename_i h
      intro e
      have e1 : digs q.den = digs 1 := by rw [e]; simp [digs, dd_pos, dd_zero, dch]
      exact h (digs_inj e1)
/-- the numerator and the denominator that the parts say -/
def fNum (neg : Bool) (a : List UInt8) : Int := if neg then -(dval a : Int) else dval a
def fDen (b : List UInt8) : Nat := if b = [] then 1 else dval b
theorem dval_pos_of {b : List UInt8} (h : ∀ c ∈ b, isDig c) (hn : b ≠ []) (h0 : b.head? ≠ some 48) : dval b ≠ 0 := by
  intro e
  have := dd_dval h h0
  rw [e, dd_zero] at this
  exact hn this.symm
theorem Form.den_ne {s : List UInt8} {neg : Bool} {a b : List UInt8} (f : Form s neg a b) : fDen b ≠ 0 := by
  unfold fDen; split
  · decide
  · rename_i h; exact dval_pos_of f.db h f.hb
theorem Form.txt {s : List UInt8} {neg : Bool} {a b : List UInt8} (f : Form s neg a b) {q : Rat} (h1 : q.num = fNum neg a) (h2 : q.den = fDen b) : s = txtQ q := by
  have ea : digs (dval a) = a := digs_dval f.da f.ne (f.ha.imp id fun h => h.1)
  have habs : (fNum neg a).natAbs = dval a := by unfold fNum; split <;> simp
  have hneg : (fNum neg a < 0) ↔ neg = true := by
    unfold fNum
    cases neg
    · simp
    · simp only [if_true]
      constructor
      · intro _; trivial
      · intro _
        have : dval a ≠ 0 := by
          rcases f.ha with h | h
          · exact dval_pos_of f.da f.ne h
          · exact absurd h.2.1 (by simp)
        omega
  have hd : (fDen b = 1) ↔ b = [] := by
    unfold fDen
    split
    · rename_i h; simp [h]
    · rename_i h
      constructor
      · intro e
        exfalso
        have h3 := digs_dval f.db h (Or.inl f.hb)
        rw [e] at h3
        apply f.b1
        rw [← h3]; simp [digs, dd_pos, dd_zero, dch]
      · intro e; exact absurd e h
  rw [f.eq]
  unfold txtQ txtI
  rw [h1, h2, habs, ea]
  by_cases hb : b = []
  · rw [if_pos hb, if_pos (hd.2 hb)]
    cases neg
    · rw [if_neg (fun e => Bool.noConfusion (hneg.1 e))]; simp
    · rw [if_pos (hneg.2 rfl)]; simp
  · rw [if_neg hb, if_neg (fun e => hb (hd.1 e))]
    have eb : digs (fDen b) = b := by
      unfold fDen; rw [if_neg hb]; exact digs_dval f.db hb (Or.inl f.hb)
    rw [eb]
    cases neg
    · rw [if_neg (fun e => Bool.noConfusion (hneg.1 e))]; simp
    · rw [if_pos (hneg.2 rfl)]; simp
/-- what a form says if the text is a number -/
theorem Form.of_txt {s : List UInt8} {neg : Bool} {a b : List UInt8} (f : Form s neg a b) {q : Rat} (e : s = txtQ q) : q.num = fNum neg a ∧ q.den = fDen b := by
  subst e
  obtain ⟨e1, e2, e3⟩ := f.unique (txtQ_form q)
  subst e1 e2 e3
  constructor
  · unfold fNum
    rw [dval_digs]
    by_cases h : q.num < 0
    · simp [h]; omega
    · simp [h]; omega
  · unfold fDen
    by_cases h : q.den = 1
    · simp [h]
    · simp [h, digs_ne, dval_digs]
/-- which texts are numbers -/
def IsNum (s : List UInt8) : Prop := ∃ q, s = txtQ q
theorem Form.isNum {s : List UInt8} {neg : Bool} {a b : List UInt8} (f : Form s neg a b) : IsNum s ↔ Nat.gcd (dval a) (fDen b) = 1 := by
  have habs : (fNum neg a).natAbs = dval a := by unfold fNum; split <;> simp
  constructor
  · rintro ⟨q, e⟩
    have := f.of_txt e
    have hr := q.reduced
    rw [this.1, this.2, habs] at hr
    exact hr
  · intro h
    exact ⟨⟨fNum neg a, fDen b, f.den_ne, by rw [habs]; exact h⟩, f.txt rfl rfl⟩
theorem IsNum.form {s : List UInt8} (h : IsNum s) : ∃ neg a b, Form s neg a b := by
  obtain ⟨q, rfl⟩ := h
  exact ⟨_, _, _, txtQ_form q⟩
/-- the value of a text; 0 for one that is no number -/
def rvRaw (s : List UInt8) : Rat :=
  let neg := s.head? == some 45
  let t := if neg then s.drop 1 else s
  mkRat (fNum neg (t.takeWhile fun c => decide (isDig c))) (fDen ((t.dropWhile fun c => decide (isDig c)).drop 1))
def rv (s : List UInt8) : Rat := if txtQ (rvRaw s) = s then rvRaw s else 0
theorem rv_txt (q : Rat) : rv (txtQ q) = q := by
  have f := txtQ_form q
  have hn := f.head
  have hr : ∀ b : List UInt8, ∀ c, (if b = [] then [] else 47 :: b : List UInt8).head? = some c → ¬ isDig c := by
    intro b c hc
    split at hc
    · simp at hc
    · simp at hc; subst hc; decide
  have e : rvRaw (txtQ q) = q := by
    unfold rvRaw
    simp only [← hn]
    generalize hb : (if q.den = 1 then [] else digs q.den) = b at f
    have ht : (if decide (q.num < 0) = true then (txtQ q).drop 1 else txtQ q) = digs q.num.natAbs ++ (if b = [] then [] else 47 :: b) := by
      rw [f.eq]
      by_cases h0 : q.num < 0 <;> simp [h0]
    rw [ht, (span_dig f.da (hr b)).1, (span_dig f.da (hr b)).2]
    have h1 := f.of_txt rfl
    have h2 : (if b = [] then [] else 47 :: b : List UInt8).drop 1 = b := by
      by_cases h0 : b = [] <;> simp [h0]
    rw [h2, ← h1.1, ← h1.2, Rat.mkRat_self]
  unfold rv
  rw [e, if_pos rfl]
theorem rv_not {s : List UInt8} (h : ¬ IsNum s) : rv s = 0 := by
  unfold rv
  rw [if_neg (fun e => h ⟨_, e.symm⟩)]
theorem txt_rv {s : List UInt8} (h : IsNum s) : txtQ (rv s) = s := by
  obtain ⟨q, rfl⟩ := h
  rw [rv_txt]
theorem Form.rv_num {s : List UInt8} {neg : Bool} {a b : List UInt8} (f : Form s neg a b) (h : IsNum s) : (rv s).num = fNum neg a ∧ (rv s).den = fDen b := by
  obtain ⟨q, rfl⟩ := h
  rw [rv_txt]; exact f.of_txt rfl
end Go.Proofs.YtgnclfejnndicaaGreatDoor
/-
  Text of numbers in the reference: Digits, FromDigits, Text, Read, Num.
-/
namespace Go.Proofs.YtgnclfejnndicaaGreatDoor
open Go
set_option maxRecDepth 20000
theorem und_bytes : Tryz.prog.underlying ty_tBytes_e = some (.int .u8) := by kernel_rfl
theorem und_string : Tryz.prog.underlying ty_string = some .string := by kernel_rfl
/-- parts of nine digits, the last ones first -/
def pv : List Nat → Nat
  | [] => 0
  | d :: r => d + 1000000000 * pv r
theorem pv_snoc (ps : List Nat) (d : Nat) : pv (ps ++ [d]) = pv ps + 10 ^ (9 * ps.length) * d := by
  induction ps with
  | nil => simp [pv]
  | cons p ps ih =>
    simp only [List.cons_append, pv, ih, List.length_cons]
    rw [show 9 * (ps.length + 1) = 9 * ps.length + 9 by omega, Nat.pow_add, show 10 ^ 9 = 1000000000 by decide]
    grind
theorem pv_drop_le (ps : List Nat) (k : Nat) : pv (ps.drop k) ≤ pv ps := by
  induction ps generalizing k with
  | nil => simp
  | cons p ps ih =>
    cases k with
    | zero => simp
    | succ k => have := ih k; simp only [List.drop_succ_cons, pv]; omega
theorem pv_drop {ps : List Nat} {k : Nat} (h : k < ps.length) : pv (ps.drop k) = ps[k] + 1000000000 * pv (ps.drop (k + 1)) := by
  rw [List.drop_eq_getElem_cons h]; rfl
def pw (e : Nat) : Nat := if e = 0 then 0 else 10 ^ (e - 1)
theorem pw_succ (e : Nat) : pw (e + 1) = 10 ^ e := by simp [pw]
theorem pw_div (e : Nat) : pw (e + 1) / 10 = pw e := by
  rw [pw_succ]
  cases e with
  | zero => simp [pw]
  | succ e => rw [pw_succ, Nat.pow_succ, Nat.mul_div_cancel _ (by decide)]
theorem dd_step (V d : Nat) (hd : d < 10) : dd (10 * V + d) = if V ≠ 0 ∨ d ≠ 0 then dd V ++ [dch d] else dd V := by
  by_cases h : 10 * V + d = 0
  · have h1 : V = 0 := by omega
    have h2 : d = 0 := by omega
    subst h1 h2
    simp
  · rw [if_pos (by omega), dd_pos h, show (10 * V + d) / 10 = V by omega, show (10 * V + d) % 10 = d by omega]
theorem dd_nil_iff (n : Nat) : (dd n).length = 0 ↔ n = 0 := by
  constructor
  · intro h
    by_cases h0 : n = 0
    · exact h0
    · exact absurd (List.eq_nil_of_length_eq_zero h) (dd_ne h0)
  · rintro rfl; rw [dd_zero]; rfl
section
variable {h h' : Heap} {K : Value → Heap → Prop} {A B : Option Addr} {n c n' c' : Nat} {s s' : Bool} {x y z : Int} {m : Nat} {p q : Rat} {a b w : QV}
theorem digits_spec (i : NI h s A n c z) (hz : ZB m z) (hm : m ≤ 1000000000) (hK : K (.string (bs (digs z.natAbs))) h) : FCall Tryz.prog f_NDigits #[.agg #[.bool s, .slice A n c]] h K := by
  have h0 := i.zero_iff
  have hln := i.len hz hm
  refine FCall.pure (NDigits_ok _ _ _ _ ?_)
  unfold NDigits
  refine Br.beq (fun e => ?_) (fun e => ?_)
  · have : z = 0 := h0.1 (by omega)
    subst this
    exact ⟨Heap.le_refl h, hK⟩
  · have hz0 : z ≠ 0 := fun e1 => e (by have := h0.2 e1; omega)
    generalize hZ : z.natAbs = Z at *
    have hZm : Z < 2 ^ m := by rw [← hZ]; exact hz
    rw [digs_pos (show Z ≠ 0 by omega)] at hK
    have hmag := i.mag
    rw [hZ] at hmag
    refine ⟨fun l hp => ∃ (ps : List Nat) (X : Nat) (A B : Option Addr) (c mn mc : Nat) (g : Heap), l = [.slice A ps.length c, .slice B mn mc] ∧ h.le g ∧ Priv hp g ty_tU32s_e 1 A ps.length c (ps.map fun (d : Nat) => U32 (d : Int)) ∧ Mg g B mn X ∧ mn ≤ 100000000 ∧ (∀ d ∈ ps, d < 1000000000) ∧ Z = pv ps + 10 ^ (9 * ps.length) * X ∧ 29 * ps.length ≤ m + 29, fun l hp => match l with | [_, .slice B n _] => mval b32 hp B n | _ => 0, ⟨[], Z, none, A, 0, n, c, h, rfl, Heap.le_refl h, Priv.nil _ _ _ _, hmag, hln, by simp, by simp [pv], by simp⟩, ?_⟩
    rintro A1 n1 c1 B1 mn mc hp ⟨ps, X, A1', B1', c1', mn', mc', g, hl, hle, P1, M1, q1, hps, hZp, hlen⟩
    obtain ⟨⟨rfl, rfl, rfl⟩, rfl, rfl, rfl⟩ : (A1 = A1' ∧ n1 = ps.length ∧ c1 = c1') ∧ B1 = B1' ∧ mn = mn' ∧ mc = mc' := by simpa using hl
    have hX0 := M1.len_zero (by decide)
    refine Br.dec (fun h1 => ?_) (fun h1 => ?_)
    · have hX : X ≠ 0 := by omega
      have hl29 : 29 * ps.length < m := by
        have h2 : 2 ^ (29 * ps.length) ≤ 10 ^ (9 * ps.length) := by
          rw [Nat.pow_mul, Nat.pow_mul]
          exact Nat.pow_le_pow_left (by decide) _
        have h3 : 10 ^ (9 * ps.length) * 1 ≤ 10 ^ (9 * ps.length) * X := Nat.mul_le_mul_left _ (by omega)
        exact (Nat.pow_lt_pow_iff_right (a := 2) (by decide)).1 (by omega)
      refine P1.call ?_
      refine smallDiv_spec M1 (by decide) q1 ?_
      intro A2 m2 c2 h2 l2 k2 k3 M2 h3 P3
      refine ⟨_, _, _, _, rfl, ?_⟩
      have hmod : ((X : Int) % 1000000000) = ((X % 1000000000 : Nat) : Int) := by omega
      have hdiv : ((X : Int) / 1000000000) = ((X / 1000000000 : Nat) : Int) := by omega
      rw [hdiv] at M2
      rw [hmod]
      refine push_ok tU32s P3 rfl rfl (by omega) (by omega) ?_
      intro A4 c4 h4 g4 l4 P4
      have M4 : Mg g4 A2 m2 ((X / 1000000000 : Nat) : Int) := M2.mono l4
      refine ⟨⟨ps ++ [X % 1000000000], X / 1000000000, A4, A2, c4, m2, c2, g4, by simp, Heap.le_trans hle (Heap.le_trans l2 l4), by simpa using P4, M4, by omega, ?_, ?_, ?_⟩, ?_⟩
      · intro d hd
        rcases List.mem_append.1 hd with h5 | h5
        · exact hps d h5
        · rw [List.mem_singleton.1 h5]; exact Nat.mod_lt _ (by decide)
      · rw [pv_snoc, List.length_append, List.length_singleton, Nat.mul_add, Nat.pow_add, hZp, Nat.add_assoc, Nat.mul_assoc, ← Nat.mul_add, show 10 ^ (9 * 1) = 1000000000 by decide, Nat.mod_add_div]
      · rw [List.length_append, List.length_singleton]; omega
      · show mval b32 h4 A2 m2 < mval b32 hp B1 mn
        rw [mval_eq (M4.mono P4.le), mval_eq (M1.mono P1.le)]
        simp only [Int.toNat_natCast]
        exact Nat.div_lt_self (by omega) (by decide)
    · have hX : X = 0 := by omega
      subst hX
      rw [Nat.mul_zero, Nat.add_zero] at hZp
      have sps : SlV hp A1 (ps.map fun (d : Nat) => U32 (d : Int)) := P1.slV
      have hps0 : ps.length ≠ 0 := by
        intro e0
        rw [List.eq_nil_of_length_eq_zero e0] at hZp
        simp [pv] at hZp; omega
      have hVl : ∀ V, V ≤ Z → (dd V).length ≤ m := by
        intro V hV
        apply dd_len_le.2
        have : 2 ^ m ≤ 10 ^ m := Nat.pow_le_pow_left (by decide) _
        omega
      have e1 : wi64 ((ps.length : Int) - 1) = (ps.length : Int) - 1 := wi64_id (by omega) (by omega)
      rw [e1]
      refine ⟨fun l h4 => ∃ (k : Nat) (A : Option Addr) (n c : Nat) (g : Heap), l = [.slice A n c, I ((k : Int) - 1)] ∧ k ≤ ps.length ∧ hp.le g ∧ n = (dd (pv (ps.drop k))).length ∧ Priv h4 g ty_tBytes_e 1 A n c (yv (dd (pv (ps.drop k)))), fun l _ => (iAt l 1 + 1).toNat, ⟨ps.length, none, 0, 0, hp, rfl, Nat.le_refl _, Heap.le_refl hp, by simp [pv, dd_zero], by simpa [pv, dd_zero, yv] using Priv.nil _ _ _ _⟩, ?_⟩
      rintro A2 n2 c2 i2 h4 ⟨k, A2', n2', c2', g4, hl2, hk, lg, hn2, P2⟩
      obtain ⟨⟨rfl, rfl, rfl⟩, rfl⟩ : (A2 = A2' ∧ n2 = n2' ∧ c2 = c2') ∧ i2 = (k : Int) - 1 := by simpa using hl2
      refine Br.dec (fun h2 => ?_) (fun h2 => ?_)
      · obtain ⟨j, rfl⟩ : ∃ j, k = j + 1 := ⟨k - 1, by omega⟩
        have ej : ((j + 1 : Nat) : Int) - 1 = (j : Int) := by omega
        rw [ej]
        have hj : j < ps.length := by omega
        have hpd := pv_drop hj
        have hpj : ps[j] < 1000000000 := hps _ (List.getElem_mem hj)
        have hle2 := pv_drop_le ps j
        refine ⟨fun l h5 => ∃ (e : Nat) (A : Option Addr) (n c : Nat) (g : Heap), l = [.slice A n c, U32 (pw e : Int)] ∧ e ≤ 9 ∧ hp.le g ∧ n = (dd (pv (ps.drop (j + 1)) * 10 ^ (9 - e) + ps[j] / 10 ^ e)).length ∧ Priv h5 g ty_tBytes_e 1 A n c (yv (dd (pv (ps.drop (j + 1)) * 10 ^ (9 - e) + ps[j] / 10 ^ e))), fun l _ => (iAt l 1).toNat, ⟨9, A2, n2, c2, g4, rfl, by omega, lg, ?_, ?_⟩, ?_⟩
        · rw [Nat.div_eq_of_lt (by simpa using hpj)]; simpa using hn2
        · rw [Nat.div_eq_of_lt (by simpa using hpj)]; simpa using P2
        rintro A5 n5 c5 d h5 ⟨e, A5', n5', c5', g5, hl5, he, lg5, hn5, P5⟩
        obtain ⟨⟨rfl, rfl, rfl⟩, rfl⟩ : (A5 = A5' ∧ n5 = n5' ∧ c5 = c5') ∧ d = (pw e : Int) := by simpa using hl5
        generalize hV : pv (ps.drop (j + 1)) * 10 ^ (9 - e) + ps[j] / 10 ^ e = V at *
        refine Br.dec (fun h6 => ?_) (fun h6 => ?_)
        · obtain ⟨f, rfl⟩ : ∃ f, e = f + 1 := by
            cases e with
            | zero => simp [pw] at h6
            | succ f => exact ⟨f, rfl⟩
          have hpw : pw (f + 1) = 10 ^ f := pw_succ f
          have hpf : 0 < 10 ^ f := Nat.pow_pos (by decide)
          have hpf8 : 10 ^ f ≤ 100000000 := by
            have : 10 ^ f ≤ 10 ^ 8 := Nat.pow_le_pow_right (by decide) (by omega)
            simpa using this
          -- the next digit
          have hVn : pv (ps.drop (j + 1)) * 10 ^ (9 - f) + ps[j] / 10 ^ f = 10 * V + ps[j] / 10 ^ f % 10 := by
            rw [← hV, show 9 - f = (9 - (f + 1)) + 1 by omega, Nat.pow_succ, Nat.pow_succ, ← Nat.div_div_eq_div_mul, Nat.mul_add]
            have := Nat.div_add_mod (ps[j] / 10 ^ f) 10
            grind
          have hVle : 10 * V + ps[j] / 10 ^ f % 10 ≤ Z := by
            rw [← hVn]
            have t1 : 10 ^ (9 - f) * 10 ^ f = 1000000000 := by rw [← Nat.pow_add, show 9 - f + f = 9 by omega]
            have t2 : 10 ^ (9 - f) ≤ 1000000000 := by rw [← t1]; exact Nat.le_mul_of_pos_right _ hpf
            have t3 : pv (ps.drop (j + 1)) * 10 ^ (9 - f) ≤ pv (ps.drop (j + 1)) * 1000000000 := Nat.mul_le_mul_left _ t2
            have t4 := Nat.div_le_self ps[j] (10 ^ f)
            omega
          have ec : wu8 (wu32 ((48 : Int) + Int.tmod (wu32 (Int.tdiv (ps[j] : Int) ((pw (f + 1) : Nat) : Int))) 10)) = ((48 + ps[j] / 10 ^ f % 10 : Nat) : Int) := by
            rw [hpw]
            have t1 : Int.tdiv (ps[j] : Int) ((10 ^ f : Nat) : Int) = ((ps[j] / 10 ^ f : Nat) : Int) := by rw [← Int.ofNat_tdiv]
            rw [t1]
            have t2 : ps[j] / 10 ^ f < 1000000000 := Nat.lt_of_le_of_lt (Nat.div_le_self _ _) hpj
            clear t1
            generalize ps[j] / 10 ^ f = D at t2 ⊢
            rw [wu32_id (n := (D : Int)) (by omega) (by omega)]
            have t3 : Int.tmod (D : Int) 10 = ((D % 10 : Nat) : Int) := by
              rw [Int.tmod_eq_emod_of_nonneg (by omega)]; omega
            rw [t3, wu32_id (by omega) (by omega), wu8_id (by omega) (by omega)]; omega
          have hd10 : ps[j] / 10 ^ f % 10 < 10 := Nat.mod_lt _ (by decide)
          have sps5 : SlV h5 A1 (ps.map fun (d : Nat) => U32 (d : Int)) := sps.mono (Heap.le_trans lg5 P5.le)
          refine ⟨fun l h6 => ∃ (A : Option Addr) (n c : Nat) (g : Heap), l = [.slice A n c] ∧ hp.le g ∧ n = (dd (10 * V + ps[j] / 10 ^ f % 10)).length ∧ Priv h6 g ty_tBytes_e 1 A n c (yv (dd (10 * V + ps[j] / 10 ^ f % 10))), ?_, ?_⟩
          · obtain ⟨ad, had, hcell⟩ := SlV.at sps5 (i := j) (by simpa using hj)
            refine ⟨ad, had, by omega, by omega, (ps[j] : Int), by rw [Int.toNat_natCast, Nat.mul_one, hcell]; simp, ?_⟩
            refine Br.dec (fun e0 => absurd e0 (by omega)) (fun _ => ?_)
            rw [ec]
            have hstep := dd_step V (ps[j] / 10 ^ f % 10) hd10
            have hVnil := dd_nil_iff V
            refine ⟨fun l h7 => l = [.bool (decide (V ≠ 0 ∨ ps[j] / 10 ^ f % 10 ≠ 0))] ∧ h7 = h5, Br.dec (fun h7 => ⟨?_, rfl⟩) (fun h7 => ⟨?_, rfl⟩), ?_⟩
            · have : V ≠ 0 := by omega
              simp [this]
            · have : V = 0 := by omega
              have e2 : ∀ D : Nat, (((48 + D : Nat) : Int) != 48) = decide (V ≠ 0 ∨ D ≠ 0) := by
                intro D
                rw [Bool.eq_iff_iff, bne_iff_ne, decide_eq_true_iff]; omega
              rw [e2]
            rintro tb h7 ⟨hl7, rfl⟩
            obtain rfl : tb = decide (V ≠ 0 ∨ ps[j] / 10 ^ f % 10 ≠ 0) := by simpa using hl7
            refine Br.dec (fun h8 => ?_) (fun h8 => ?_)
            · rw [if_pos h8] at hstep
              have hl8 := hVl _ hVle
              rw [hstep, List.length_append, List.length_singleton] at hl8
              refine push_ok tBytes P5 rfl rfl (by omega) (by omega) ?_
              intro A9 c9 h9 g9 l9 P9
              refine ⟨A9, n5 + 1, c9, g9, rfl, Heap.le_trans lg5 l9, by rw [hstep, List.length_append, hn5]; rfl, ?_⟩
              rw [hstep, yv_append]
              have : yv [dch (ps[j] / 10 ^ f % 10)] = [Y ((48 + ps[j] / 10 ^ f % 10 : Nat) : Int)] := by
                simp only [yv, List.map_cons, List.map_nil, dch_toNat hd10]
              rw [this]; exact P9
            · rw [if_neg h8] at hstep
              exact ⟨A5, n5, c5, g5, rfl, lg5, by rw [hstep]; exact hn5, by rw [hstep]; exact P5⟩
          · rintro A9 n9 c9 h9 ⟨A9', n9', c9', g9, hl9, lg9, hn9, P9⟩
            obtain ⟨rfl, rfl, rfl⟩ : A9 = A9' ∧ n9 = n9' ∧ c9 = c9' := by simpa using hl9
            have ed : wu32 (Int.tdiv ((pw (f + 1) : Nat) : Int) 10) = ((pw f : Nat) : Int) := by
              have t1 : Int.tdiv ((pw (f + 1) : Nat) : Int) 10 = ((pw (f + 1) / 10 : Nat) : Int) := by rw [Int.natCast_ediv, Int.tdiv_eq_ediv_of_nonneg (by omega)]; rfl
              rw [t1, pw_div, wu32_id (by omega) (by have := pw_div f; rw [hpw] at this; omega)]
            rw [ed]
            refine ⟨⟨f, A9, n9, c9, g9, rfl, by omega, lg9, by rw [hVn]; exact hn9, by rw [hVn]; exact P9⟩, ?_⟩
            simp only [iAt, List.getElem?_cons_zero, List.getElem?_cons_succ, Int.toNat_natCast]
            have := pw_div f
            rw [hpw] at this ⊢
            omega
        · have he0 : e = 0 := by
            cases e with
            | zero => rfl
            | succ f => rw [pw_succ] at h6; have : 0 < 10 ^ f := Nat.pow_pos (by decide); omega
          subst he0
          have hV2 : V = pv (ps.drop j) := by rw [← hV, hpd]; simp; omega
          rw [hV2] at P5 hn5
          rw [wi64_id (by omega) (by omega)]
          exact ⟨⟨j, A5, n5, c5, g5, rfl, by omega, lg5, hn5, P5⟩, by simp only [iAt, List.getElem?_cons_zero, List.getElem?_cons_succ]; omega⟩
      · have hk0 : k = 0 := by omega
        subst hk0
        rw [List.drop_zero, ← hZp] at P2 hn2
        refine toStr_ok tBytes.und und_bytes und_string P2.slV hn2 ?_
        exact ⟨_, rfl, Heap.le_trans hle (Heap.le_trans P1.le (Heap.le_trans lg P2.le)), hK⟩
end
end Go.Proofs.YtgnclfejnndicaaGreatDoor
