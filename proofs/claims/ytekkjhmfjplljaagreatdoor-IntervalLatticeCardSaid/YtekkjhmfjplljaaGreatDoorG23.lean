/-
  Texts of this proof, merged by a program of ours: RatA, RatB, RatC, RatD, RatE, IntPw, RatF.
-/
import Derived.Test.YtekkjhmfjplljaaGreatDoorG19
import Derived.Test.YtekkjhmfjplljaaGreatDoorG22
/-
  The form of a number's text: cutDigits, split.
-/
namespace Go.Proofs.YtekkjhmfjplljaaGreatDoor
open Go
set_option maxRecDepth 20000
abbrev dgt (c : UInt8) : Bool := decide (isDig c)
theorem takeWhile_dig (l : List UInt8) : ∀ c ∈ l.takeWhile dgt, isDig c := by
  induction l with
  | nil => simp
  | cons d r ih =>
    intro c hc
    by_cases hd : isDig d
    . simp [hd] at hc
      rcases hc with rfl | hc
      . exact hd
      . exact ih c hc
    . simp [hd] at hc
def pneg (l : List UInt8) : Bool := decide ([45] <+: l)
def prest (l : List UInt8) : List UInt8 := if [45] <+: l then l.drop 1 else l
theorem prest_eq (l : List UInt8) : l = (if pneg l then [45] else []) ++ prest l := by
  unfold pneg prest
  by_cases h : [45] <+: l
  . obtain ⟨t, rfl⟩ := h; simp
  . simp [h]
theorem pneg_head (l : List UInt8) : pneg l = (l.head? == some 45) := by
  unfold pneg
  cases l with
  | nil => simp
  | cons c r =>
    rw [List.head?_cons, Bool.eq_iff_iff, decide_eq_true_iff, beq_iff_eq, Option.some.injEq]
    constructor
    . rintro ⟨t, e⟩; simp at e; exact e.1.symm
    . rintro rfl; exact ⟨r, rfl⟩
theorem Form.parts {l : List UInt8} {neg : Bool} {a b : List UInt8} (f : Form l neg a b) : neg = pneg l /\ a = (prest l).takeWhile dgt /\ (if b = [] then [] else 47 :: b) = (prest l).dropWhile dgt := by
  have hn : neg = pneg l := by rw [pneg_head]; exact f.head
  have e := prest_eq l
  rw [<- hn] at e
  have e2 := e.symm.trans f.eq
  rw [List.append_assoc] at e2
  have e3 := List.append_cancel_left e2
  have hr : ∀ c, (if b = [] then [] else 47 :: b : List UInt8).head? = some c -> ¬ isDig c := by
    intro c hc
    split at hc
    . simp at hc
    . simp at hc; subst hc; decide
  have := span_dig f.da hr
  rw [<- e3] at this
  exact ⟨hn, this.1.symm, this.2.symm⟩
section
variable {h g : Heap} {K : Value -> Heap -> Prop} {l : List UInt8}
theorem cutDigits_spec (hl : l.length <= 1000000000) (hK : K (.tuple #[.string (bs (l.takeWhile dgt)), .string (bs (l.dropWhile dgt))]) h) : FCall Tryz.prog f_TCutDigits #[.string (bs l)] h K := by
  refine TCutDigits_ok _ ?_
  unfold TCutDigits
  simp only [bs_size]
  refine ⟨fun L hp => L = [I (((l.takeWhile dgt).length : Nat) : Int)] /\ hp = h, ?_, ?_⟩
  . refine ⟨fun L hp => ∃ k : Nat, L = [I k] /\ hp = h /\ k <= l.length /\ (∀ c ∈ l.take k, isDig c), fun L _ => l.length - (iAt L 0).toNat, ⟨0, rfl, rfl, by omega, by simp⟩, ?_⟩
    rintro n hp ⟨k, hL, rfl, hk, hd⟩
    obtain rfl : n = (k : Int) := by simpa using hL
    have stop : (∀ c, (l.drop k).head? = some c -> ¬ isDig c) -> [I (k : Int)] = [I (((l.takeWhile dgt).length : Nat) : Int)] /\ hp = hp := by
      intro hs
      have := span_dig hd hs
      rw [List.take_append_drop] at this
      refine ⟨?_, rfl⟩
      rw [this.1, List.length_take, Nat.min_eq_left hk]
    refine Br.dec (fun h1 => ?_) (fun h1 => ?_)
    . have hkl : k < l.length := by omega
      have hget : (bs l)[(k : Int).toNat]? = some l[k] := by rw [Int.toNat_natCast, bs_get, List.getElem?_eq_getElem hkl]
      have hh : (l.drop k).head? = some l[k] := by rw [List.head?_drop, List.getElem?_eq_getElem hkl]
      refine ⟨l[k], ⟨by omega, hget⟩, Br.dec (fun h2 => ?_) (fun h2 => ?_)⟩
      . refine ⟨l[k], ⟨by omega, hget⟩, Br.dec (fun h3 => ?_) (fun h3 => ?_)⟩
        . rw [wi64_id (by omega) (by omega)]
          refine ⟨⟨k + 1, rfl, rfl, by omega, ?_⟩, by simp only [iAt, List.getElem?_cons_zero]; omega⟩
          rw [List.take_succ_eq_append_getElem hkl]
          intro c hc
          rcases List.mem_append.1 hc with h4 | h4
          . exact hd c h4
          . rw [List.mem_singleton.1 h4]; exact ⟨by omega, by omega⟩
        . exact stop (fun c hc => by rw [hh] at hc; cases hc; intro hd; exact h3 (by have := hd.2; omega))
      . exact stop (fun c hc => by rw [hh] at hc; cases hc; intro hd; exact h2 (by have := hd.1; omega))
    . exact stop (fun c hc => by rw [List.drop_of_length_le (by omega)] at hc; cases hc)
  . rintro n hp ⟨hL, rfl⟩
    obtain rfl : n = (((l.takeWhile dgt).length : Nat) : Int) := by simpa using hL
    have hle : (l.takeWhile dgt).length <= l.length := (List.takeWhile_sublist _).length_le
    have e1 : l.take (l.takeWhile dgt).length = l.takeWhile dgt := by
      conv => lhs; rw [<- List.takeWhile_append_dropWhile (p := dgt) (l := l)]
      rw [List.takeWhile_append_dropWhile, List.prefix_iff_eq_take.1 (List.takeWhile_prefix _)]
      rw [List.length_take, Nat.min_eq_left hle]
    have e2 : l.drop (l.takeWhile dgt).length = l.dropWhile dgt := by
      have h5 : l.takeWhile dgt ++ l.drop (l.takeWhile dgt).length = l.takeWhile dgt ++ l.dropWhile dgt := by
        rw [List.takeWhile_append_dropWhile]
        conv => lhs; lhs; rw [<- e1]
        exact List.take_append_drop _ _
      exact List.append_cancel_left h5
    refine ⟨⟨by omega, by omega⟩, ⟨by omega, by omega⟩, ?_⟩
    rw [Int.toNat_natCast, bs_extract, bs_extract, List.drop_zero, Nat.sub_zero, e1, e2, List.take_of_length_le (by rw [<- e2, List.length_drop]; omega)]
    exact hK
theorem bs_nil_beq (a : List UInt8) : ((bs a).toList == ({ data := #[] } : ByteArray).toList) = decide (a = []) := bs_beq a []
theorem split_spec (hl : l.length <= 1000000000) (hK1 : ∀ neg a b, Form l neg a b -> K (.tuple #[.agg #[.bool neg, .string (bs a), .string (bs b)], .bool true]) h) (hK0 : (∀ neg a b, ¬ Form l neg a b) -> ∀ neg a b, K (.tuple #[.agg #[.bool neg, .string (bs a), .string (bs b)], .bool false]) h) : FCall Tryz.prog f_TSplit #[.string (bs l)] h K := by
  refine TSplit_ok _ ?_
  unfold TSplit
  refine cutPrefix_spec (q := [45]) ⟨_, _, rfl, ?_⟩
  have hpl : (prest l).length <= l.length := by unfold prest; split <;> simp
  show FCall Tryz.prog f_TCutDigits #[.string (bs (prest l))] h _
  refine cutDigits_spec (by omega) ⟨_, _, rfl, ?_⟩
  show Br _ _ _
  have hspl : prest l = (prest l).takeWhile dgt ++ (prest l).dropWhile dgt := List.takeWhile_append_dropWhile.symm
  have hda : ∀ c ∈ (prest l).takeWhile dgt, isDig c := takeWhile_dig _
  have hfp : ∀ neg a b, Form l neg a b -> neg = pneg l /\ a = (prest l).takeWhile dgt /\ (if b = [] then [] else 47 :: b) = (prest l).dropWhile dgt := fun neg a b f => f.parts
  have hl2 := prest_eq l
  have hal : ((prest l).takeWhile dgt).length <= l.length := Nat.le_trans (List.takeWhile_sublist _).length_le hpl
  have hrl : ((prest l).dropWhile dgt).length <= l.length := Nat.le_trans (List.dropWhile_sublist _).length_le hpl
  have hrh : ∀ c, ((prest l).dropWhile dgt).head? = some c -> ¬ isDig c := fun c hc => by
    have := List.head?_dropWhile_not dgt (prest l)
    rw [hc] at this
    simpa using this
  show Br _ _ _
  have hneg : decide ([45] <+: l) = pneg l := rfl
  rw [hneg]
  generalize pneg l = neg at *
  generalize (prest l).takeWhile dgt = a at *
  generalize (prest l).dropWhile dgt = r at *
  generalize prest l = t at *
  subst hspl
  have e48 : ((bs a).toList == ({ data := #[48] } : ByteArray).toList) = decide (a = [48]) := bs_beq a [48]
  rw [e48, bs_nil_beq, bs_nil_beq]
  refine Br.dec (fun h1 => ?_) (fun h1 => ?_)
  . subst h1
    refine Br.not (Br.of (fun hn => ?_) (fun hn => ?_))
    . subst hn
      refine hK0 ?_ _ _ []
      intro n' a' b' f
      obtain ⟨rfl, rfl, _⟩ := hfp _ _ _ f
      rcases f.ha with h2 | h2
      . exact h2 rfl
      . cases h2.2.1
    . subst hn
      by_cases hr : r = []
      . rw [decide_eq_true hr]
        subst hr
        refine hK1 false [48] [] ⟨by simpa using hl2, by simpa using hda, by simp, by simp, .inr ⟨rfl, rfl, rfl⟩, by simp, by simp⟩
      . rw [decide_eq_false hr]
        refine hK0 ?_ _ _ []
        intro n' a' b' f
        obtain ⟨rfl, rfl, h3⟩ := hfp _ _ _ f
        rcases f.ha with h2 | h2
        . exact h2 rfl
        . rw [h2.2.2] at h3; exact hr (by simpa using h3.symm)
  . refine ⟨fun L hp => L = [.bool (decide (a = [] \/ a.head? = some 48))] /\ hp = h, ?_, ?_⟩
    . refine Br.dec (fun h2 => ⟨by simp [h2], rfl⟩) (fun h2 => ?_)
      obtain ⟨c, r2, rfl⟩ := List.exists_cons_of_ne_nil h2
      refine ⟨c, ⟨by omega, by rw [bs_get]; rfl⟩, ?_, rfl⟩
      congr 2
      rw [Bool.eq_iff_iff, beq_iff_eq, decide_eq_true_iff]
      simp only [reduceCtorEq, false_or, List.head?_cons, Option.some.injEq]
      constructor
      . intro e; apply UInt8.toNat_inj.1; show c.toNat = 48; omega
      . rintro rfl; rfl
    rintro t31 hp ⟨hL, rfl⟩
    obtain rfl : t31 = decide (a = [] \/ a.head? = some 48) := by simpa using hL
    refine Br.dec (fun h2 => ?_) (fun h2 => ?_)
    . refine hK0 ?_ _ _ []
      intro n' a' b' f
      obtain ⟨rfl, rfl, _⟩ := hfp _ _ _ f
      rcases h2 with h2 | h2
      . exact f.ne h2
      . rcases f.ha with h3 | h3
        . exact h3 h2
        . exact h1 h3.1
    . have hane : a ≠ [] := fun e => h2 (.inl e)
      have hah : a.head? ≠ some 48 := fun e => h2 (.inr e)
      refine Br.dec (fun h3 => ?_) (fun h3 => ?_)
      . subst h3
        exact hK1 neg a [] ⟨by simpa using hl2, hda, by simp, hane, .inl hah, by simp, by simp⟩
      . obtain ⟨c, r2, rfl⟩ := List.exists_cons_of_ne_nil h3
        refine ⟨c, ⟨by omega, by rw [bs_get]; rfl⟩, Br.bne (fun h4 => ?_) (fun h4 => ?_)⟩
        . refine hK0 ?_ _ _ []
          intro n' a' b' f
          obtain ⟨rfl, rfl, h5⟩ := hfp _ _ _ f
          by_cases hb : b' = []
          . simp [hb] at h5
          . rw [if_neg hb] at h5
            simp at h5
            exact h4 (by rw [<- h5.1]; rfl)
        . have hc : c = 47 := by apply UInt8.toNat_inj.1; show c.toNat = 47; omega
          subst hc
          refine ⟨⟨by omega, by rw [bs_size]; simp; omega⟩, ?_⟩
          rw [bs_extract, show ((1 : Int)).toNat = 1 from rfl, bs_size, List.take_of_length_le (by simp), List.drop_succ_cons, List.drop_zero]
          refine cutDigits_spec (by simp at hrl; omega) ⟨_, _, rfl, ?_⟩
          have hsp2 : r2 = r2.takeWhile dgt ++ r2.dropWhile dgt := List.takeWhile_append_dropWhile.symm
          have hdb : ∀ c ∈ r2.takeWhile dgt, isDig c := takeWhile_dig _
          have hbp : ∀ b' : List UInt8, (∀ c ∈ b', isDig c) -> b' = r2 -> r2.takeWhile dgt = b' /\ r2.dropWhile dgt = [] := by
            intro b' hd e
            subst e
            have := span_dig (r := []) hd (by simp)
            simpa using this
          generalize r2.takeWhile dgt = b at *
          generalize r2.dropWhile dgt = s at *
          have no : (s ≠ [] \/ b = [] \/ b.head? = some 48 \/ b = [49]) -> ∀ neg' a' b', ¬ Form (((if neg = true then [45] else []) ++ (a ++ 47 :: r2))) neg' a' b' := by
            rintro hbad n' a' b' f
            rw [<- hl2] at f
            obtain ⟨rfl, rfl, h5⟩ := hfp _ _ _ f
            by_cases hb : b' = []
            . simp [hb] at h5
            . rw [if_neg hb] at h5
              simp at h5
              obtain ⟨e6, e7⟩ := hbp b' f.db h5
              subst e6
              rcases hbad with h6 | h6 | h6 | h6
              . exact h6 e7
              . exact hb h6
              . exact f.hb h6
              . exact f.b1 h6
          rw [bs_nil_beq, bs_nil_beq]
          have e49 : ((bs b).toList == ({ data := #[49] } : ByteArray).toList) = decide (b = [49]) := bs_beq b [49]
          rw [e49]
          refine Br.dec (fun h6 => ?_) (fun h6 => hK0 (by rw [hl2]; exact no (.inl h6)) _ _ _)
          subst h6
          rw [List.append_nil] at hsp2
          subst hsp2
          refine Br.not (Br.dec (fun h7 => hK0 (by rw [hl2]; exact no (.inr (.inl h7))) _ _ _) (fun h7 => ?_))
          obtain ⟨c, r3, rfl⟩ := List.exists_cons_of_ne_nil h7
          refine ⟨c, ⟨by omega, by rw [bs_get]; rfl⟩, Br.bne (fun h8 => ?_) (fun h8 => ?_)⟩
          . by_cases h9 : c :: r3 = [49]
            . rw [decide_eq_true h9]
              exact hK0 (by rw [hl2]; exact no (.inr (.inr (.inr h9)))) _ _ _
            . rw [decide_eq_false h9]
              refine hK1 neg a (c :: r3) ⟨by simpa using hl2, hda, hdb, hane, .inl hah, ?_, h9⟩
              intro e; simp at e; exact h8 (by rw [e]; rfl)
          . have hh : (c :: r3).head? = some 48 := by
              simp only [List.head?_cons, Option.some.injEq]
              apply UInt8.toNat_inj.1; show c.toNat = 48; omega
            exact hK0 (by rw [hl2]; exact no (.inr (.inr (.inl hh)))) _ _ _
end
end Go.Proofs.YtekkjhmfjplljaaGreatDoor
/-
  Short numbers: digitsValue, gcd, readShort, readTwo, formatShort.
-/
namespace Go.Proofs.YtekkjhmfjplljaaGreatDoor
open Go
set_option maxRecDepth 20000
theorem a48_zero : (Tryz.prog.info? ty_a48).map (fun i => i.zero) = some (some (.agg (Array.replicate 48 (.int .u8 0)))) := by kernel_rfl
theorem divInt_parts {x y : Int} (hy : 0 < y) : (Rat.divInt x y).num = x.tdiv (Int.gcd x y) /\ ((Rat.divInt x y).den : Int) = y.tdiv (Int.gcd x y) := by
  have hg : (Int.gcd x y : Int) ∣ x := Int.gcd_dvd_left ..
  have hg2 : (Int.gcd x y : Int) ∣ y := Int.gcd_dvd_right ..
  constructor
  . rw [Rat.num_divInt, Int.sign_eq_one_of_pos hy, Int.one_mul, Int.gcd_comm, Int.tdiv_eq_ediv_of_dvd hg]
  . rw [Rat.den_divInt, if_neg (by omega), Int.gcd_comm, Int.natCast_ediv, Int.natAbs_of_nonneg (by omega), Int.tdiv_eq_ediv_of_dvd hg2]
theorem txtQ_int {q : Rat} (h : q.den = 1) : txtQ q = txtI q.num := by unfold txtQ; rw [if_pos h, List.append_nil]
theorem txtQ_frac {q : Rat} (h : q.den ≠ 1) : txtQ q = txtI q.num ++ [47] ++ txtI (q.den : Int) := by
  unfold txtQ; rw [if_neg h, txtI_pos (i := (q.den : Int)) (by omega), Int.natAbs_natCast]; simp
section
variable {h g : Heap} {K : Value -> Heap -> Prop} {l : List UInt8}
theorem ten18 {k : Nat} (h : k <= 18) : 10 ^ k <= 1000000000000000000 := Nat.le_trans (Nat.pow_le_pow_right (by decide) h) (by decide)
theorem digitsValue_spec (hd : ∀ c ∈ l, isDig c) (hl : l.length <= 18) (hK : K (I (dval l : Int)) h) : FCall Tryz.prog f_TDigitsValue #[.string (bs l)] h K := by
  refine TDigitsValue_ok _ ?_
  unfold TDigitsValue
  simp only [bs_size]
  refine ⟨fun L hp => ∃ k : Nat, L = [I (dval (l.take k) : Int), I k] /\ hp = h /\ k <= l.length, fun L _ => l.length - (iAt L 1).toNat, ⟨0, rfl, rfl, by omega⟩, ?_⟩
  rintro n t7 hp ⟨k, hL, rfl, hk⟩
  simp only [List.cons.injEq, Value.int.injEq, and_true, true_and] at hL
  obtain ⟨rfl, rfl⟩ := hL
  refine Br.dec (fun h1 => ?_) (fun h1 => ?_)
  . have hkl : k < l.length := by omega
    have hdc := hd l[k] (List.getElem_mem hkl)
    have hlt := dval_lt (l := l.take (k + 1)) (fun c hc => hd c (List.mem_of_mem_take hc))
    rw [List.length_take, Nat.min_eq_left (by omega)] at hlt
    have ht := ten18 (k := k + 1) (by omega)
    have hs : dval (l.take (k + 1)) = 10 * dval (l.take k) + (l[k].toNat - 48) := by rw [List.take_succ_eq_append_getElem hkl, dval_snoc]
    unfold isDig at hdc
    refine ⟨l[k], ⟨by omega, by rw [Int.toNat_natCast, bs_get, List.getElem?_eq_getElem hkl]⟩, ?_⟩
    have e : wi64 (wi64 (10 * ((dval (l.take k) : Nat) : Int)) + wi64 (wu8 (((l[k].toNat : Nat) : Int) - 48))) = ((dval (l.take (k + 1)) : Nat) : Int) := by
      rw [wu8_id (by omega) (by omega), wi64_id (n := ((l[k].toNat : Nat) : Int) - 48) (by omega) (by omega), wi64_id (n := 10 * ((dval (l.take k) : Nat) : Int)) (by omega) (by omega), wi64_id (by omega) (by omega)]
      omega
    rw [e, wi64_id (n := (k : Int) + 1) (by omega) (by omega)]
    exact ⟨⟨k + 1, rfl, rfl, by omega⟩, by simp only [iAt, List.getElem?_cons_zero, List.getElem?_cons_succ]; omega⟩
  . obtain rfl : k = l.length := by omega
    rw [List.take_length]; exact hK
theorem tgcd_spec {a b : Nat} (hK : K (I (Nat.gcd a b : Int)) h) : FCall Tryz.prog f_TGcd #[I (a : Int), I (b : Int)] h K := by
  refine TGcd_ok _ _ ?_
  unfold TGcd
  refine ⟨fun L hp => ∃ x y : Nat, L = [I x, I y] /\ hp = h /\ Nat.gcd x y = Nat.gcd a b, fun L _ => (iAt L 1).toNat, ⟨a, b, rfl, rfl, rfl⟩, ?_⟩
  rintro a1 b1 hp ⟨x, y, hL, rfl, hg⟩
  obtain ⟨rfl, rfl⟩ : a1 = (x : Int) /\ b1 = (y : Int) := by simpa using hL
  refine Br.bne (fun h1 => ?_) (fun h1 => ?_)
  . have hy : y ≠ 0 := by omega
    refine Br.dec (fun e => absurd e h1) (fun _ => ?_)
    have e : Int.tmod (x : Int) (y : Int) = ((x % y : Nat) : Int) := (Int.ofNat_tmod x y).symm
    rw [e]
    have hlt := Nat.mod_lt x (Nat.pos_of_ne_zero hy)
    refine ⟨⟨y, x % y, rfl, rfl, ?_⟩, by simp only [iAt, List.getElem?_cons_zero, List.getElem?_cons_succ]; omega⟩
    rw [<- hg, Nat.gcd_comm x y, Nat.gcd_rec y x, Nat.gcd_comm]
  . obtain rfl : y = 0 := by omega
    rw [Nat.gcd_zero_right] at hg
    rw [hg]; exact hK
theorem readShort_spec (hK1 : ∀ q, l = txtQ q -> q.num.natAbs < 1000000000 -> q.den < 1000000000 -> K (.tuple #[.agg #[I q.num, I (q.den : Int)], .bool true]) h) (hK0 : K (.tuple #[.agg #[I 0, I 0], .bool false]) h) : FCall Tryz.prog f_TReadShort #[.string (bs l)] h K := by
  refine TReadShort_ok _ ?_
  unfold TReadShort
  rw [bs_size]
  refine Br.dec (fun _ => hK0) (fun h1 => ?_)
  refine split_spec (by omega) ?_ ?_
  . intro neg a b f
    refine ⟨_, _, _, _, rfl, ?_⟩
    simp only [bs_size]
    refine ⟨fun L hp => L = [.bool (decide (a.length > 9 \/ b.length > 9))] /\ hp = h, Br.of (fun e => by cases e) (fun _ => Br.dec (fun h2 => ⟨?_, rfl⟩) (fun h2 => ⟨?_, rfl⟩)), ?_⟩
    . rw [decide_eq_true (show a.length > 9 \/ b.length > 9 by omega)]
    . by_cases hb9 : b.length > 9
      . rw [decide_eq_true (show a.length > 9 \/ b.length > 9 by omega)]
        exact congrArg (fun x => [Value.bool x]) (decide_eq_true (show ((b.length : Nat) : Int) > 9 by omega))
      . rw [decide_eq_false (show ¬ (a.length > 9 \/ b.length > 9) by omega)]
        exact congrArg (fun x => [Value.bool x]) (decide_eq_false (show ¬ ((b.length : Nat) : Int) > 9 by omega))
    rintro t29 hp ⟨hL, rfl⟩
    obtain rfl : t29 = decide (a.length > 9 \/ b.length > 9) := by simpa using hL
    refine Br.dec (fun _ => hK0) (fun h2 => ?_)
    have habs : (fNum neg a).natAbs = dval a := by unfold fNum; split <;> simp
    have hva := dval_lt f.da
    have hvb := dval_lt f.db
    have h9 : ∀ k, k <= 9 -> 10 ^ k <= 1000000000 := fun k hk => Nat.le_trans (Nat.pow_le_pow_right (by decide) hk) (by decide)
    have h9a := h9 a.length (by omega)
    have h9b := h9 b.length (by omega)
    refine digitsValue_spec f.da (by omega) ⟨_, rfl, ?_⟩
    refine ⟨fun L hp' => L = [I 0, I 0, I (dval a : Int), I (fDen b : Int)] /\ hp' = hp /\ Nat.gcd (dval a) (fDen b) = 1, ?_, ?_⟩
    . rw [bs_nil_beq]
      refine Br.not (Br.dec (fun h3 => ?_) (fun h3 => ?_))
      . subst h3; exact ⟨rfl, rfl, by unfold fDen; simp⟩
      . refine digitsValue_spec f.db (by omega) ⟨_, rfl, tgcd_spec ⟨_, rfl, Br.bne (fun _ => hK0) (fun h4 => ?_)⟩⟩
        have hfd : fDen b = dval b := by unfold fDen; rw [if_neg h3]
        rw [hfd]
        exact ⟨rfl, rfl, by omega⟩
    . rintro t20 t21 x0 x1 hp5 ⟨hL5, rfl, hg⟩
      simp only [List.cons.injEq, Value.int.injEq, and_true, true_and] at hL5
      obtain ⟨_, _, rfl, rfl⟩ := hL5
      obtain ⟨q, hq⟩ := f.isNum.2 hg
      have hqf := f.of_txt hq
      have hfd1 : fDen b < 1000000000 := by unfold fDen; split <;> omega
      refine ⟨fun L hp' => L = [I q.num, I (q.den : Int)] /\ hp' = hp5, Br.of (fun e => ?_) (fun e => ?_), ?_⟩
      . rw [hqf.1, hqf.2, e, wi64_id (by omega) (by omega)]
        exact ⟨by unfold fNum; simp, rfl⟩
      . rw [hqf.1, hqf.2, e]
        exact ⟨by unfold fNum; simp, rfl⟩
      . rintro y0 y1 hp6 ⟨hL6, rfl⟩
        simp only [List.cons.injEq, Value.int.injEq, and_true, true_and] at hL6
        obtain ⟨rfl, rfl⟩ := hL6
        exact hK1 q hq (by rw [hqf.1, habs]; omega) (by rw [hqf.2]; exact hfd1)
  . intro hf neg a b
    refine ⟨_, _, _, _, rfl, ?_⟩
    refine ⟨fun L hp => L = [.bool true] /\ hp = h, Br.not ⟨rfl, rfl⟩, ?_⟩
    rintro t29 hp ⟨hL, rfl⟩
    obtain rfl : t29 = true := by simpa using hL
    exact Br.of (fun _ => hK0) (fun e => by cases e)
theorem readTwo_spec {l' : List UInt8} (hK1 : ∀ p q, l = txtQ p -> l' = txtQ q -> p.num.natAbs < 1000000000 -> p.den < 1000000000 -> q.num.natAbs < 1000000000 -> q.den < 1000000000 -> K (.tuple #[.agg #[I p.num, I (p.den : Int)], .agg #[I q.num, I (q.den : Int)], .bool true]) h) (hK0 : K (.tuple #[.agg #[I 0, I 0], .agg #[I 0, I 0], .bool false]) h) : FCall Tryz.prog f_TReadTwo #[.string (bs l), .string (bs l')] h K := by
  refine TReadTwo_ok _ _ ?_
  unfold TReadTwo
  refine readShort_spec ?_ ⟨_, _, _, rfl, Br.not hK0⟩
  intro p hp h1 h2
  refine ⟨_, _, _, rfl, Br.not ?_⟩
  refine readShort_spec ?_ ⟨_, _, _, rfl, Br.not hK0⟩
  intro q hq h3 h4
  exact ⟨_, _, _, rfl, Br.not (hK1 p q hp hq h1 h2 h3 h4)⟩
theorem formatShort_spec {num den : Int} (gp : Gp h) (hd : den ≠ 0) (h1 : num.natAbs < 4000000000000000000) (h2 : den.natAbs < 4000000000000000000) (hK : K (.string (bs (txtQ (Rat.divInt num den)))) h) : FCall Tryz.prog f_TFormatShort #[I num, I den] h K := by
  refine FCall.pure (TFormatShort_ok _ _ ?_)
  unfold TFormatShort
  refine ⟨fun L hp => hp = h /\ ∃ n d : Int, L = [I n, I d] /\ 0 < d /\ Rat.divInt n d = Rat.divInt num den /\ n.natAbs = num.natAbs /\ d.natAbs = den.natAbs, Br.dec (fun h3 => ⟨rfl, -num, -den, ?_, by omega, Rat.neg_divInt_neg num den, by omega, by omega⟩) (fun h3 => ⟨rfl, num, den, rfl, by omega, rfl, rfl, rfl⟩), ?_⟩
  . rw [wi64_id (by omega) (by omega), wi64_id (by omega) (by omega), Int.zero_sub, Int.zero_sub]
  rintro n1 d1 hp ⟨rfl, n, d, hL, hdp, hq, hn, hdn⟩
  simp only [List.cons.injEq, Value.int.injEq, and_true, true_and] at hL
  obtain ⟨rfl, rfl⟩ := hL
  rw [<- hq] at hK
  have hpq := divInt_parts (x := n1) hdp
  have hsz := divInt_le (a := n1) (b := d1) (by omega)
  generalize Rat.divInt n1 d1 = q at *
  have hqd := q.den_nz
  refine ⟨fun L hp' => hp' = hp /\ L = [I q.num, I (q.den : Int)], Br.bne (fun h3 => ?_) (fun h3 => ?_), ?_⟩
  . have e1 : (if (wi64 (0 - n1)) > n1 then wi64 (0 - n1) else n1) = ((n1.natAbs : Nat) : Int) := by
      rw [wi64_id (by omega) (by omega)]; split <;> omega
    obtain ⟨k, rfl⟩ : ∃ k : Nat, d1 = k := ⟨d1.toNat, by omega⟩
    rw [e1]
    refine tgcd_spec ⟨_, rfl, ?_⟩
    have hg0 : 0 < Nat.gcd n1.natAbs k := Nat.gcd_pos_of_pos_right _ (by omega)
    refine Br.dec (fun e => by omega) (fun _ => Br.dec (fun e => by omega) (fun _ => ⟨rfl, ?_⟩))
    have e3 : Int.tdiv n1 ((Nat.gcd n1.natAbs k : Nat) : Int) = q.num := hpq.1.symm
    have e4 : Int.tdiv (k : Int) ((Nat.gcd n1.natAbs k : Nat) : Int) = (q.den : Int) := hpq.2.symm
    rw [e3, e4, wi64_id (by omega) (by omega), wi64_id (by omega) (by omega)]
  . subst h3
    have hg : Int.gcd n1 1 = 1 := by simp
    rw [hg] at hpq
    simp at hpq
    refine ⟨rfl, ?_⟩
    rw [hpq.1]
    simp only [List.cons.injEq, Value.int.injEq, and_true, true_and]; omega
  rintro n2 d2 hp2 ⟨rfl, hL2⟩
  simp only [List.cons.injEq, Value.int.injEq, and_true, true_and] at hL2
  obtain ⟨rfl, rfl⟩ := hL2
  refine Br.beq (fun h3 => ?_) (fun h3 => ?_)
  . rw [txtQ_int (by omega)] at hK
    exact formatInt_spec gp (by omega) (by omega) ⟨_, rfl, Heap.le_refl _, hK⟩
  . rw [txtQ_frac (by omega)] at hK
    refine alloc_ok a48_zero ?_
    intro b hb
    have hz : (Value.agg (Array.replicate 48 (.int .u8 0))).cells = (List.replicate 48 (Value.int .u8 0)).toArray := by rfl
    rw [hz]
    refine ⟨_, rfl, ⟨by omega, by omega⟩, ?_⟩
    have hcut : cutA (some ⟨b, 0, none⟩) 48 0 1 = some ⟨b, 0, none⟩ := rfl
    rw [hcut, show ((0 : Int)).toNat - 0 = 0 from rfl, show 48 - 0 = 48 from rfl]
    have p0 : Priv (hp2.put b (.cells (List.replicate 48 (Value.int .u8 0)).toArray ty_a48)) hp2 ty_a48 1 (some ⟨b, 0, none⟩) 0 48 (yv []) := ⟨by simp [yv], by omega, .inr ⟨b, List.replicate 48 (Value.int .u8 0), rfl, hb, rfl, by simp, by simp [yv]⟩⟩
    refine appendInt_spec gp p0 (by omega) (by omega) (by omega) ?_
    intro A1 n1' c1 e1 g1 h1' x1
    refine ⟨_, _, _, rfl, ?_⟩
    have hl1 : (txtI q.num).length <= 20 := by
      unfold txtI
      have : (digs q.num.natAbs).length <= 19 := (digs_len (by decide)).2 (Nat.lt_of_lt_of_le (show q.num.natAbs < 10000000000000000000 by omega) (by decide))
      split <;> simp <;> omega
    have hx1 := x1.len
    refine push1_ok (ch := 47) rfl x1.priv (by omega) ?_
    intro A2 n2' c2 e2 g2 h2' x2
    have x12 := x1.trans x2
    have hx2 := x12.len
    rw [List.length_append, List.length_singleton] at hx2
    refine appendInt_spec (gp.mono x12.le) x2.priv (by omega) (by omega) (by omega) ?_
    intro A3 n3' c3 e3 g3 h3' x3
    refine ⟨_, _, _, rfl, ?_⟩
    rw [List.append_assoc] at x3
    have x123 := x12.trans x3
    have hx3 := x123.len
    refine toStr_ok tBytes.und und_bytes und_string x123.priv.slV (by simpa using hx3) ⟨_, rfl, ?_⟩
    refine ⟨Heap.le_trans x123.le x123.priv.le, ?_⟩
    simpa using hK
end
end Go.Proofs.YtekkjhmfjplljaaGreatDoor
/-
  The type Ratio of the program: its methods.
-/
namespace Go.Proofs.YtekkjhmfjplljaaGreatDoor
open Go
set_option maxRecDepth 20000
structure RQ (h : Heap) (w : QV) (q : Rat) : Prop where
  num : ZI h w.s w.A w.n w.c q.num
  den : ZI h w.s2 w.A2 w.n2 w.c2 (if q.den = 1 then 0 else (q.den : Int))
theorem ZB.gcd {m : Nat} {x y : Int} (hy : y ≠ 0) (h : ZB m y) : ZB m (Int.gcd x y : Int) := by
  refine h.le ?_
  rw [Int.natAbs_natCast]
  exact Nat.le_of_dvd (by omega) (Int.natAbs_dvd_natAbs.2 (Int.gcd_dvd_right x y))
theorem sign_lt {x y a b : Int} (ha : 0 < a) (hb : 0 < b) (hs : x.sign ≠ y.sign) : cmpI (x * a) (y * b) = cmpI x y := by
  have hxa : (x * a).sign = x.sign := by rw [Int.sign_mul, Int.sign_eq_one_of_pos ha, Int.mul_one]
  have hyb : (y * b).sign = y.sign := by rw [Int.sign_mul, Int.sign_eq_one_of_pos hb, Int.mul_one]
  have key : ∀ u v : Int, u.sign ≠ v.sign -> (u < v ↔ u.sign < v.sign) /\ (v < u ↔ v.sign < u.sign) := by
    intro u v h
    have t : ∀ w : Int, (w < 0 /\ w.sign = -1) \/ (w = 0 /\ w.sign = 0) \/ (0 < w /\ w.sign = 1) := fun w => by
      rcases Int.lt_trichotomy w 0 with h1 | h1 | h1
      . exact .inl ⟨h1, Int.sign_eq_neg_one_of_neg h1⟩
      . exact .inr (.inl ⟨h1, by rw [h1]; rfl⟩)
      . exact .inr (.inr ⟨h1, Int.sign_eq_one_of_pos h1⟩)
    have tu := t u
    have tv := t v
    omega
  have k1 := key x y hs
  have k2 := key (x * a) (y * b) (by rw [hxa, hyb]; exact hs)
  rw [hxa, hyb] at k2
  unfold cmpI
  by_cases h1 : x < y
  . rw [if_pos h1, if_pos (k2.1.2 (k1.1.1 h1))]
  . rw [if_neg h1, if_neg (fun e => h1 (k1.1.2 (k2.1.1 e)))]
    by_cases h2 : y < x
    . rw [if_pos h2, if_pos (k2.2.2 (k1.2.1 h2))]
    . rw [if_neg h2, if_neg (fun e => h2 (k1.2.2 (k2.2.1 e)))]
section
variable {h h' : Heap} {K : Value -> Heap -> Prop} {A B : Option Addr} {n c n' c' : Nat} {s s' : Bool} {x y z : Int} {m : Nat} {p q : Rat} {a b w : QV} {l : List UInt8}
theorem RQ.mono (hl : h.le h') (i : RQ h w q) : RQ h' w q := ⟨i.num.mono hl, i.den.mono hl⟩
theorem RQ.whole (i : ZI h s A n c z) : RQ h ⟨s, A, n, c, false, none, 0, 0⟩ (z : Rat) := ⟨by simpa using i, by simpa using ZI.zero⟩
theorem RQ.zero : RQ h ⟨false, none, 0, 0, false, none, 0, 0⟩ 0 := ⟨ZI.zero, ZI.zero⟩
theorem isZero_den (i : RQ h w q) (hK : K (.bool (decide (q.den = 1))) h) : FCall Tryz.prog f_ZIsZero #[.agg #[.bool w.s2, .slice w.A2 w.n2 w.c2]] h K := by
  refine zisZero_spec i.den ?_
  have := q.den_nz
  have e : decide ((if q.den = 1 then (0 : Int) else (q.den : Int)) = 0) = decide (q.den = 1) := by
    rw [decide_eq_decide]; split <;> omega
  rw [e]; exact hK
theorem lowest_spec (i : ZI h s A n c z) (j : ZI h s' B n' c' y) (h1 : q.num = z) (h2 : (q.den : Int) = y) (hK : ∀ w, RQ h w q -> K w.v h) : FCall Tryz.prog f_TLowest #[.agg #[.bool s, .slice A n c], .agg #[.bool s', .slice B n' c']] h K := by
  subst h1 h2
  refine TLowest_ok _ _ _ _ _ _ _ _ ?_
  unfold TLowest
  refine zisOne_spec j ⟨_, rfl, Br.dec (fun e => ?_) (fun e => ?_)⟩
  . exact hK ⟨s, A, n, c, false, none, 0, 0⟩ ⟨i, by rw [if_pos (by omega)]; exact ZI.zero⟩
  . exact hK ⟨s, A, n, c, s', B, n', c'⟩ ⟨i, by rw [if_neg (by omega)]; exact j⟩
theorem rden_spec (i : RQ h w q) (hK : ∀ s A n c h', h.le h' -> ZI h' s A n c (q.den : Int) -> K (.agg #[.bool s, .slice A n c]) h') : FCall Tryz.prog f_RDen #[w.v] h K := by
  refine RDen_ok _ _ _ _ _ _ _ _ ?_
  unfold RDen
  refine isZero_den i ⟨_, rfl, Br.dec (fun e => ?_) (fun e => ?_)⟩
  . refine znew_spec (by decide) (by decide) ?_
    intro s A n c h1 l1 i1
    exact ⟨_, _, _, _, rfl, hK _ _ _ _ _ l1 (by rw [e]; exact i1)⟩
  . have := i.den
    rw [if_neg e] at this
    exact hK _ _ _ _ _ (Heap.le_refl _) this
theorem cancel_spec (gl : Gtz h) (i : ZI h s A n c x) (j : ZI h s' B n' c' y) (hx : ZB m x) (hy : ZB m y) (hm : m <= 6400000000) (hy0 : 0 < y) (hK : ∀ s1 A1 n1 c1 s2 A2 n2 c2 h', h.le h' -> ZI h' s1 A1 n1 c1 (x.tdiv (Int.gcd x y)) -> ZI h' s2 A2 n2 c2 (y.tdiv (Int.gcd x y)) -> K (.tuple #[.agg #[.bool s1, .slice A1 n1 c1], .agg #[.bool s2, .slice A2 n2 c2]]) h') : FCall Tryz.prog f_TCancel #[.agg #[.bool s, .slice A n c], .agg #[.bool s', .slice B n' c']] h K := by
  refine TCancel_ok _ _ _ _ _ _ _ _ ?_
  unfold TCancel
  refine zisOne_spec j ⟨_, rfl, Br.dec (fun e => ?_) (fun e => ?_)⟩
  . subst e
    have hg : Int.gcd x 1 = 1 := by simp
    rw [hg] at hK
    exact hK _ _ _ _ _ _ _ _ _ (Heap.le_refl _) (by simpa using i) (by simpa using j)
  . refine zgcd_spec gl i j hx hy hm ?_
    intro A1 n1 c1 h1 l1 i1
    have hg := Int.gcd_pos_of_ne_zero_right x (show y ≠ 0 by omega)
    have hgb : ZB m (Int.gcd x y : Int) := ZB.gcd (by omega) hy
    refine ⟨_, _, _, _, rfl, zquo_spec (i.mono l1) i1 hx hgb hm (by omega) ?_⟩
    intro s2 A2 n2 c2 h2 l2 i2
    refine ⟨_, _, _, _, rfl, l2, zquo_spec (j.mono (Heap.le_trans l1 l2)) (i1.mono l2) hy hgb hm (by omega) ?_⟩
    intro s3 A3 n3 c3 h3 l3 i3
    exact ⟨_, _, _, _, rfl, l3, hK _ _ _ _ _ _ _ _ _ (Heap.le_trans l1 (Heap.le_trans l2 l3)) (i2.mono l3) i3⟩
theorem rneg'_spec (i : RQ h w q) (hK : ∀ w', RQ h w' (-q) -> K w'.v h) : FCall Tryz.prog f_RNeg #[w.v] h K := by
  refine RNeg_ok _ _ _ _ _ _ _ _ ?_
  unfold RNeg
  refine zneg_spec i.num ?_
  intro s' i'
  exact ⟨_, _, _, _, rfl, Heap.le_refl _, hK ⟨s', w.A, w.n, w.c, w.s2, w.A2, w.n2, w.c2⟩ ⟨by simpa using i', by simpa using i.den⟩⟩
theorem rsign'_spec (i : RQ h w q) (hK : K (I q.num.sign) h) : FCall Tryz.prog f_RSign #[w.v] h K := by
  refine RSign_ok _ _ _ _ _ _ _ _ ?_
  unfold RSign
  exact zsign_spec i.num ⟨_, rfl, hK⟩
theorem risZero_spec (i : RQ h w q) (hK : K (.bool (decide (q = 0))) h) : FCall Tryz.prog f_RIsZero #[w.v] h K := by
  refine RIsZero_ok _ _ _ _ _ _ _ _ ?_
  unfold RIsZero
  refine zisZero_spec i.num ⟨_, rfl, ?_⟩
  have e : decide (q.num = 0) = decide (q = 0) := by rw [decide_eq_decide]; exact Rat.num_eq_zero
  rw [e]; exact hK
end
end Go.Proofs.YtekkjhmfjplljaaGreatDoor
/-
  The type Ratio of the program: products, quotients, comparison, reading, text.
-/
namespace Go.Proofs.YtekkjhmfjplljaaGreatDoor
open Go
set_option maxRecDepth 20000
structure Gl (h : Heap) : Prop where
  tz : Gtz h
  p10 : Gp h
theorem Gl.mono {h h' : Heap} (g : Gl h) (l : h.le h') : Gl h' := ⟨g.tz.mono l, g.p10.mono l⟩
section
variable {h h' : Heap} {K : Value -> Heap -> Prop} {A B : Option Addr} {n c n' c' : Nat} {s s' : Bool} {x y z : Int} {m : Nat} {p q : Rat} {a b w : QV} {l : List UInt8}
theorem rmul'_spec (gl : Gtz h) (i : RQ h a p) (j : RQ h b q) (hp : Sz m p) (hq : Sz m q) (hm : m <= 6400000000) (hK : ∀ w h', h.le h' -> RQ h' w (p * q) -> K w.v h') : FCall Tryz.prog f_RMul #[a.v, b.v] h K := by
  have hpd := p.den_nz
  have hqd := q.den_nz
  refine RMul_ok _ _ _ _ _ _ _ _ _ _ _ _ _ _ _ _ ?_
  unfold RMul
  refine ⟨fun L hp => L = [.bool (decide (p.num = 0 \/ q.num = 0))] /\ hp = h, zisZero_spec i.num ⟨_, rfl, Br.dec (fun e => ?_) (fun e => ?_)⟩, ?_⟩
  . exact ⟨by simp [e], rfl⟩
  . exact zisZero_spec j.num ⟨_, rfl, by simp [e], rfl⟩
  rintro t16 hp2 ⟨hL, rfl⟩
  obtain rfl : t16 = decide (p.num = 0 \/ q.num = 0) := by simpa using hL
  refine Br.dec (fun e => ?_) (fun e => ?_)
  . have : p * q = 0 := by
      rw [Rat.num_eq_zero, Rat.num_eq_zero] at e
      exact Rat.mul_eq_zero.2 e
    rw [this] at hK
    exact hK ⟨false, none, 0, 0, false, none, 0, 0⟩ _ (Heap.le_refl _) RQ.zero
  . refine ⟨fun L hp => L = [.bool (decide (p.den = 1 /\ q.den = 1))] /\ hp = hp2, isZero_den i ⟨_, rfl, Br.dec (fun e => ?_) (fun e => ?_)⟩, ?_⟩
    . exact isZero_den j ⟨_, rfl, by simp [e], rfl⟩
    . exact ⟨by simp [e], rfl⟩
    rintro t25 hp5 ⟨hL, rfl⟩
    obtain rfl : t25 = decide (p.den = 1 /\ q.den = 1) := by simpa using hL
    refine Br.dec (fun e => ?_) (fun e => ?_)
    . refine zmul_spec i.num j.num hp.num hq.num hm ?_
      intro s1 A1 n1 c1 h1 l1 i1
      refine ⟨_, _, _, _, rfl, hK ⟨s1, A1, n1, c1, false, none, 0, 0⟩ _ l1 ?_⟩
      have := RQ.whole i1
      rw [Rat.intCast_mul, <- eq_int e.1, <- eq_int e.2] at this
      exact this
    . have hpp := mul_parts p q
      refine rden_spec j ?_
      intro s1 A1 n1 c1 h1 l1 jd
      refine ⟨_, _, _, _, rfl, l1, cancel_spec (gl.mono l1) (i.num.mono l1) jd hp.num hq.den hm (by omega) ?_⟩
      intro s2 A2 n2 c2 s3 A3 n3 c3 h2 l2 i2 i3
      have l12 := Heap.le_trans l1 l2
      refine ⟨_, _, _, _, _, _, _, _, rfl, l2, rden_spec (i.mono l12) ?_⟩
      intro s4 A4 n4 c4 h4 l4 idn
      refine ⟨_, _, _, _, rfl, l4, cancel_spec (gl.mono (Heap.le_trans l12 l4)) (j.num.mono (Heap.le_trans l12 l4)) idn hq.num hp.den hm (by omega) ?_⟩
      intro s5 A5 n5 c5 s6 A6 n6 c6 h5 l5 i5 i6
      have e1 : Int.gcd p.num (q.den : Int) = Nat.gcd p.num.natAbs q.den := rfl
      have e2 : Int.gcd q.num (p.den : Int) = Nat.gcd q.num.natAbs p.den := rfl
      rw [e1] at i2 i3
      rw [e2] at i5 i6
      rw [<- Int.ofNat_tdiv] at i3 i6
      refine ⟨_, _, _, _, _, _, _, _, rfl, l5, zmul_spec (i2.mono (Heap.le_trans l4 l5)) i5 hp.num.tdiv hq.num.tdiv hm ?_⟩
      intro s7 A7 n7 c7 h7 l7 i7
      have b1 : ZB m ((p.den / Nat.gcd q.num.natAbs p.den : Nat) : Int) := hp.den.le (by rw [Int.natAbs_natCast, Int.natAbs_natCast]; exact Nat.div_le_self _ _)
      have b2 : ZB m ((q.den / Nat.gcd p.num.natAbs q.den : Nat) : Int) := hq.den.le (by rw [Int.natAbs_natCast, Int.natAbs_natCast]; exact Nat.div_le_self _ _)
      refine ⟨_, _, _, _, rfl, l7, zmul_spec (i6.mono l7) (i3.mono (Heap.le_trans l4 (Heap.le_trans l5 l7))) b1 b2 hm ?_⟩
      intro s8 A8 n8 c8 h8 l8 i8
      refine ⟨_, _, _, _, rfl, l8, lowest_spec (q := p * q) (i7.mono l8) i8 hpp.1 (by rw [hpp.2, Int.natCast_mul]) ?_⟩
      intro w iw
      exact ⟨_, _, _, _, _, _, _, _, rfl, Heap.le_refl _, hK _ _ (Heap.le_trans l12 (Heap.le_trans l4 (Heap.le_trans l5 (Heap.le_trans l7 l8)))) iw⟩
theorem rinverse_spec (i : RQ h w q) (hK : ∀ w h', h.le h' -> RQ h' w q⁻¹ -> K w.v h') : FCall Tryz.prog f_RInverse #[w.v] h K := by
  have hqd := q.den_nz
  refine RInverse_ok _ _ _ _ _ _ _ _ ?_
  unfold RInverse
  refine zsign_spec i.num ⟨_, rfl, Br.beq (fun e => ?_) (fun e => ?_)⟩
  . have h0 : q.num = 0 := Int.sign_eq_zero_iff_zero.1 e
    have : q⁻¹ = 0 := by rw [Rat.num_eq_zero.1 h0]; exact Rat.inv_zero
    rw [this] at hK
    exact hK ⟨false, none, 0, 0, false, none, 0, 0⟩ _ (Heap.le_refl _) RQ.zero
  . have h0 : q.num ≠ 0 := fun e0 => e (by rw [e0]; rfl)
    refine Br.beq (fun e1 => ?_) (fun e1 => ?_)
    . have hneg : q.num < 0 := Int.sign_neg_iff.1 (by omega)
      refine rden_spec i ?_
      intro s1 A1 n1 c1 h1 l1 i1
      refine ⟨_, _, _, _, rfl, l1, zneg_spec i1 ?_⟩
      intro s2 i2
      refine ⟨_, _, _, _, rfl, Heap.le_refl _, zneg_spec (i.num.mono l1) ?_⟩
      intro s3 i3
      refine ⟨_, _, _, _, rfl, Heap.le_refl _, lowest_spec (q := q⁻¹) i2 i3 ?_ ?_ ?_⟩
      . rw [Rat.num_inv, e1]; omega
      . rw [Rat.den_inv, if_neg h0]; omega
      . intro w iw
        exact ⟨_, _, _, _, _, _, _, _, rfl, Heap.le_refl _, hK _ _ l1 iw⟩
    . have hpos : 0 < q.num := by
        rcases Int.lt_trichotomy q.num 0 with h1 | h1 | h1
        . exact absurd (Int.sign_eq_neg_one_of_neg h1) e1
        . exact absurd h1 h0
        . exact h1
      refine rden_spec i ?_
      intro s1 A1 n1 c1 h1 l1 i1
      refine ⟨_, _, _, _, rfl, l1, lowest_spec (q := q⁻¹) i1 (i.num.mono l1) ?_ ?_ ?_⟩
      . rw [Rat.num_inv, Int.sign_eq_one_of_pos hpos, Int.one_mul]
      . rw [Rat.den_inv, if_neg h0]; omega
      . intro w iw
        exact ⟨_, _, _, _, _, _, _, _, rfl, Heap.le_refl _, hK _ _ l1 iw⟩
theorem rdiv'_spec (gl : Gtz h) (i : RQ h a p) (j : RQ h b q) (hp : Sz m p) (hq : Sz m q) (hm1 : 1 <= m) (hm : m <= 6400000000) (hK : ∀ w h', h.le h' -> RQ h' w (p / q) -> K w.v h') : FCall Tryz.prog f_RDiv #[a.v, b.v] h K := by
  refine RDiv_ok _ _ _ _ _ _ _ _ _ _ _ _ _ _ _ _ ?_
  unfold RDiv
  refine rinverse_spec j ?_
  intro w1 h1 l1 j1
  refine ⟨_, _, _, _, _, _, _, _, rfl, l1, rmul'_spec (gl.mono l1) (i.mono l1) j1 hp (hq.inv hm1) hm ?_⟩
  intro w2 h2 l2 i2
  rw [<- Rat.div_def] at i2
  exact ⟨_, _, _, _, _, _, _, _, rfl, l2, hK _ _ (Heap.le_trans l1 l2) i2⟩
theorem rfloor'_spec (i : RQ h w q) (hq : Sz m q) (hm : m + 1 <= 6400000000) (hK : ∀ s A n c h', h.le h' -> ZI h' s A n c q.floor -> K (.agg #[.bool s, .slice A n c]) h') : FCall Tryz.prog f_RFloor #[w.v] h K := by
  have hqd := q.den_nz
  refine RFloor_ok _ _ _ _ _ _ _ _ ?_
  unfold RFloor
  rw [Rat.floor_def] at hK
  refine isZero_den i ⟨_, rfl, Br.dec (fun e => ?_) (fun e => ?_)⟩
  . rw [e] at hK
    exact hK _ _ _ _ _ (Heap.le_refl _) (by simpa using i.num)
  . have idn := i.den
    rw [if_neg e] at idn
    refine zfloorQuo_spec i.num idn hq.num hq.den hm (by omega) ?_
    intro s1 A1 n1 c1 h1 l1 i1
    exact ⟨_, _, _, _, rfl, hK _ _ _ _ _ l1 i1⟩
theorem rceil_spec (i : RQ h w q) (hq : Sz m q) (hm : m + 1 <= 6400000000) (hK : ∀ s A n c h', h.le h' -> ZI h' s A n c q.ceil -> K (.agg #[.bool s, .slice A n c]) h') : FCall Tryz.prog f_RCeil #[w.v] h K := by
  refine RCeil_ok _ _ _ _ _ _ _ _ ?_
  unfold RCeil
  refine rneg'_spec i ?_
  intro w1 i1
  refine ⟨_, _, _, _, _, _, _, _, rfl, rfloor'_spec i1 hq.neg hm ?_⟩
  intro s2 A2 n2 c2 h2 l2 i2
  refine ⟨_, _, _, _, rfl, zneg_spec i2 ?_⟩
  intro s3 i3
  rw [<- Rat.ceil_eq_neg_floor_neg] at i3
  exact ⟨_, _, _, _, rfl, hK _ _ _ _ _ l2 i3⟩
def cmpQ (p q : Rat) : Int := cmpI (p.num * q.den) (q.num * p.den)
theorem cmpQ_lt : cmpQ p q < 0 ↔ p < q := by rw [Rat.lt_iff]; unfold cmpQ cmpI; split <;> (try split) <;> omega
theorem cmpQ_gt : 0 < cmpQ p q ↔ q < p := by rw [Rat.lt_iff]; unfold cmpQ cmpI; split <;> (try split) <;> omega
theorem cmpQ_le : cmpQ p q <= 0 ↔ p <= q := by rw [<- Rat.not_lt, <- cmpQ_gt]; omega
theorem rcompare_spec (i : RQ h a p) (j : RQ h b q) (hp : Sz m p) (hq : Sz m q) (hm : 2 * m <= 6400000000) (hK : K (I (cmpQ p q)) h) : FCall Tryz.prog f_RCompare #[a.v, b.v] h K := by
  have hpd := p.den_nz
  have hqd := q.den_nz
  refine FCall.pure (RCompare_ok _ _ _ _ _ _ _ _ _ _ _ _ _ _ _ _ ?_)
  unfold RCompare
  refine ⟨fun L hp => L = [.bool (decide ((p.den = 1 /\ q.den = 1) \/ p.num.sign ≠ q.num.sign))] /\ hp = h, isZero_den i ⟨_, rfl, Heap.le_refl _, Br.dec (fun e => isZero_den j ⟨_, rfl, Heap.le_refl _, Br.dec (fun e2 => ?_) (fun e2 => ?_)⟩) (fun e => ?_)⟩, ?_⟩
  . exact ⟨by simp [e, e2], rfl⟩
  . refine rsign'_spec i ⟨_, rfl, Heap.le_refl _, rsign'_spec j ⟨_, rfl, Heap.le_refl _, ?_, rfl⟩⟩
    simp [e2, bne]
    rw [Bool.eq_iff_iff]; simp
  . refine rsign'_spec i ⟨_, rfl, Heap.le_refl _, rsign'_spec j ⟨_, rfl, Heap.le_refl _, ?_, rfl⟩⟩
    simp [e, bne]
    rw [Bool.eq_iff_iff]; simp
  rintro t19 hp6 ⟨hL, rfl⟩
  obtain rfl : t19 = decide ((p.den = 1 /\ q.den = 1) \/ p.num.sign ≠ q.num.sign) := by simpa using hL
  refine Br.dec (fun e => ?_) (fun e => ?_)
  . refine zcompare_spec i.num j.num hp.num hq.num (by omega) ⟨_, rfl, Heap.le_refl _, ?_⟩
    have : cmpI p.num q.num = cmpQ p q := by
      unfold cmpQ
      rcases e with e | e
      . rw [e.1, e.2]; simp
      . exact (sign_lt (by omega) (by omega) e).symm
    rw [this]; exact hK
  . refine rden_spec j ?_
    intro s1 A1 n1 c1 h1 l1 j1
    refine ⟨_, _, _, _, rfl, l1, zmul_spec (i.num.mono l1) j1 hp.num hq.den (by omega) ?_⟩
    intro s2 A2 n2 c2 h2 l2 i2
    refine ⟨_, _, _, _, rfl, l2, rden_spec (i.mono (Heap.le_trans l1 l2)) ?_⟩
    intro s3 A3 n3 c3 h3 l3 i3
    refine ⟨_, _, _, _, rfl, l3, zmul_spec (j.num.mono (Heap.le_trans l1 (Heap.le_trans l2 l3))) i3 hq.num hp.den (by omega) ?_⟩
    intro s4 A4 n4 c4 h4 l4 i4
    refine ⟨_, _, _, _, rfl, l4, zcompare_spec (m := m + m) (i2.mono (Heap.le_trans l3 l4)) i4 (hp.num.mul hq.den) (hq.num.mul hp.den) (by omega) ⟨_, rfl, Heap.le_refl _, ?_⟩⟩
    exact ⟨Heap.le_trans l1 (Heap.le_trans l2 (Heap.le_trans l3 l4)), hK⟩
theorem dval_zb {t : List UInt8} {k : Nat} (h : ∀ c ∈ t, isDig c) (hk : t.length <= k) : ZB (4 * k) (dval t : Int) := by
  unfold ZB
  rw [Int.natAbs_natCast]
  exact Nat.lt_of_lt_of_le (dval_lt_pow h) (Nat.pow_le_pow_right (by decide) (by omega))
theorem Form.lens {neg : Bool} {a b : List UInt8} (f : Form l neg a b) : a.length <= l.length /\ b.length <= l.length := by
  have := congrArg List.length f.eq
  simp only [List.length_append] at this
  by_cases hb : b = []
  . rw [if_pos hb] at this; subst hb; simp at this ⊢; omega
  . rw [if_neg hb] at this; simp at this; omega
theorem read'_spec (gl : Gtz h) (hl : l.length <= 100000000) (hK1 : ∀ q, l = txtQ q -> ∀ w h', h.le h' -> RQ h' w q -> K (.tuple #[w.v, .bool true]) h') (hK0 : ¬ IsNum l -> ∀ (w : QV) h', h.le h' -> RQ h' w 0 -> K (.tuple #[w.v, .bool false]) h') : FCall Tryz.prog f_TRead #[.string (bs l)] h K := by
  refine TRead_ok _ ?_
  unfold TRead
  refine split_spec (by omega) ?_ ?_
  . intro neg a b f
    refine ⟨_, _, _, _, rfl, Br.not ?_⟩
    have hlen := f.lens
    refine parse_spec f.da (by omega) ?_
    intro A1 n1 c1 h1 l1 i1
    refine ⟨_, _, _, _, rfl, ?_⟩
    refine ⟨fun L hp => ∃ s2 : Bool, L = [.bool s2, .slice A1 n1 c1, .bool false, .slice none 0 0] /\ hp = h1 /\ ZI h1 s2 A1 n1 c1 (fNum neg a), Br.of (fun e => ?_) (fun e => ?_), ?_⟩
    . refine zneg_spec i1 ?_
      intro s2 i2
      exact ⟨_, _, _, _, rfl, s2, rfl, rfl, by unfold fNum; rw [e]; exact i2⟩
    . exact ⟨false, rfl, rfl, by unfold fNum; rw [e]; exact i1⟩
    rintro x0 x1A x1n x1c x2 x3A x3n x3c hp3 ⟨s2, hL, rfl, i2⟩
    simp only [List.cons.injEq, Value.slice.injEq, Value.bool.injEq, and_true] at hL
    obtain ⟨rfl, ⟨rfl, rfl, rfl⟩, rfl, rfl, rfl, rfl⟩ := hL
    have habs : (fNum neg a).natAbs = dval a := by unfold fNum; split <;> simp
    rw [bs_nil_beq]
    refine Br.dec (fun hb => ?_) (fun hb => ?_)
    . subst hb
      obtain ⟨q, hq⟩ := f.isNum.2 (by unfold fDen; simp)
      obtain ⟨h2, h3⟩ := f.of_txt hq
      refine hK1 q hq ⟨x0, x1A, x1n, x1c, false, none, 0, 0⟩ _ l1 ⟨by rw [h2]; exact i2, ?_⟩
      rw [h3, show fDen [] = 1 from rfl, if_pos rfl]; exact ZI.zero
    . refine parse_spec f.db (by omega) ?_
      intro A4 n4 c4 h4 l4 i4
      have hnb : ZB (4 * l.length) (fNum neg a) := (dval_zb f.da (k := l.length) (by omega)).le (by rw [habs, Int.natAbs_natCast]; exact Nat.le_refl _)
      refine ⟨_, _, _, _, rfl, zgcd_spec (gl.mono (Heap.le_trans l1 l4)) (i2.mono l4) i4 hnb (dval_zb f.db (k := l.length) (by omega)) (by omega) ?_⟩
      intro A5 n5 c5 h5 l5 i5
      refine ⟨_, _, _, _, rfl, zisOne_spec i5 ⟨_, rfl, ?_⟩⟩
      have hfd : fDen b = dval b := by unfold fDen; rw [if_neg hb]
      have hgg : Int.gcd (fNum neg a) (dval b : Int) = Nat.gcd (dval a) (fDen b) := by
        rw [hfd]; show Nat.gcd (fNum neg a).natAbs (dval b) = _; rw [habs]
      rw [hgg]
      refine Br.not (Br.dec (fun e1 => ?_) (fun e1 => ?_))
      . obtain ⟨q, hq⟩ := f.isNum.2 (by omega)
        obtain ⟨h2, h3⟩ := f.of_txt hq
        have hd1 : fDen b ≠ 1 := by
          intro e2
          have h6 := digs_dval f.db hb (.inl f.hb)
          rw [<- hfd, e2] at h6
          apply f.b1
          rw [<- h6]; simp [digs, dd_pos, dd_zero, dch]
        refine hK1 q hq ⟨x0, x1A, x1n, x1c, false, A4, n4, c4⟩ _ (Heap.le_trans l1 (Heap.le_trans l4 l5)) ⟨by rw [h2]; exact i2.mono (Heap.le_trans l4 l5), ?_⟩
        rw [h3, if_neg hd1, hfd]; exact i4.mono l5
      . refine hK0 ?_ ⟨false, none, 0, 0, false, none, 0, 0⟩ _ (Heap.le_trans l1 (Heap.le_trans l4 l5)) RQ.zero
        intro hn
        exact e1 (by rw [f.isNum.1 hn]; rfl)
  . intro hf neg a b
    refine ⟨_, _, _, _, rfl, Br.not ?_⟩
    refine hK0 ?_ ⟨false, none, 0, 0, false, none, 0, 0⟩ _ (Heap.le_refl _) RQ.zero
    intro hn
    obtain ⟨neg', a', b', f⟩ := hn.form
    exact hf _ _ _ f
theorem value_spec (gl : Gtz h) (hl : l.length <= 100000000) (hK : ∀ w h', h.le h' -> RQ h' w (rv l) -> K w.v h') : FCall Tryz.prog f_TValue #[.string (bs l)] h K := by
  refine TValue_ok _ ?_
  unfold TValue
  refine read'_spec gl hl ?_ ?_
  . intro q e w h1 l1 i1
    exact ⟨_, _, _, _, _, _, _, _, _, rfl, hK w h1 l1 (by rw [e, rv_txt]; exact i1)⟩
  . intro hn w h1 l1 i1
    exact ⟨_, _, _, _, _, _, _, _, _, rfl, hK w h1 l1 (by rw [rv_not hn]; exact i1)⟩
theorem rstring_spec (gp : Gp h) (i : RQ h w q) (hq : Sz m q) (hm : m <= 40000000) (hK : K (.string (bs (txtQ q))) h) : FCall Tryz.prog f_RString #[w.v] h K := by
  refine FCall.pure (RString_ok _ _ _ _ _ _ _ _ ?_)
  unfold RString
  refine isZero_den i ⟨_, rfl, Br.dec (fun e => ?_) (fun e => ?_)⟩
  . rw [txtQ_int e] at hK
    refine zint64_spec i.num (fun h1 h2 => ?_) (fun h1 => ?_)
    . refine ⟨_, _, rfl, Br.of (fun _ => TFromInt_ok _ ?_) (fun e => by cases e)⟩
      unfold TFromInt
      exact formatInt_spec gp h1 h2 ⟨_, rfl, _, rfl, Heap.le_refl _, hK⟩
    . refine ⟨_, _, rfl, Br.of (fun e => by cases e) (fun _ => ?_)⟩
      exact zstring_spec gp i.num hq.num (by omega) ⟨_, rfl, Heap.le_refl _, hK⟩
  . rw [txtQ_frac e] at hK
    have idn := i.den
    rw [if_neg e] at idn
    refine zappend_spec (l := []) (eT := ty_tBytes_e) gp (Priv.nil _ _ _ _) i.num hq.num (by omega) (by omega) ?_
    intro A1 n1 c1 e1 g1 h1 x1
    refine ⟨_, _, _, rfl, ?_⟩
    have hl1 : (txtI q.num).length <= 50000000 := by
      unfold txtI
      have := digs_len_le hq.num
      split <;> simp <;> omega
    have hx1 := x1.len
    refine push1_ok (ch := 47) rfl x1.priv (by omega) ?_
    intro A2 n2 c2 e2 g2 h2 x2
    have x12 := x1.trans x2
    have hx2 := x12.len
    rw [List.length_append, List.length_singleton] at hx2
    refine zappend_spec (gp.mono x12.le) x2.priv (idn.mono x12.le) hq.den (by omega) (by omega) ?_
    intro A3 n3 c3 e3 g3 h3 x3
    refine ⟨_, _, _, rfl, ?_⟩
    rw [List.append_assoc] at x3
    have x123 := x12.trans x3
    have hx3 := x123.len
    refine toStr_ok tBytes.und und_bytes und_string x123.priv.slV (by simpa using hx3) ⟨_, rfl, ?_⟩
    refine ⟨Heap.le_trans x123.le x123.priv.le, ?_⟩
    simpa using hK
end
end Go.Proofs.YtekkjhmfjplljaaGreatDoor
/-
  Numbers as strings: Valid, Sign, Compare, Neg, Add, Sub, Mul, Div, Floor, Ceil.
-/
namespace Go.Proofs.YtekkjhmfjplljaaGreatDoor
open Go
set_option maxRecDepth 20000
structure Tx (m : Nat) (l : List UInt8) : Prop where
  len : l.length <= 100000000
  sz : Sz m (rv l)
theorem txtI_len {m : Nat} {z : Int} (h : ZB m z) : (txtI z).length <= m + 2 := by
  have := digs_len_le h
  unfold txtI; split
  . rw [List.length_cons]; omega
  . omega
theorem txtQ_len {m : Nat} {q : Rat} (h : Sz m q) : (txtQ q).length <= 2 * m + 4 := by
  have h1 := txtI_len h.num
  have h2 := digs_len_le (n := q.den) (m := m) (by have := h.den; unfold ZB at this; simpa using this)
  unfold txtQ
  split
  . simp; omega
  . simp; omega
theorem Tx.of {m : Nat} {q : Rat} (h : Sz m q) (hm : m <= 40000000) : Tx m (txtQ q) := ⟨by have := txtQ_len h; omega, by rw [rv_txt]; exact h⟩
theorem prod18 {x y : Int} (hx : x.natAbs < 1000000000) (hy : y.natAbs < 1000000000) : (x * y).natAbs < 1000000000000000000 := by
  rw [Int.natAbs_mul]
  exact Nat.mul_lt_mul'' hx hy
theorem txtQ_head (q : Rat) : ∃ c r, txtQ q = c :: r /\ (c = 45 ↔ q < 0) := by
  have f := txtQ_form q
  have hne : txtQ q ≠ [] := by
    intro e
    have := f.eq
    rw [e] at this
    have h2 := f.ne
    have := congrArg List.length this
    simp only [List.length_append, List.length_nil] at this
    exact h2 (List.eq_nil_of_length_eq_zero (by omega))
  obtain ⟨c, r, e⟩ := List.exists_cons_of_ne_nil hne
  refine ⟨c, r, e, ?_⟩
  have hh := f.head
  rw [e, List.head?_cons, Bool.eq_iff_iff, decide_eq_true_iff, beq_iff_eq, Option.some.injEq] at hh
  rw [<- hh, Rat.lt_iff]; simp
theorem rv48 : rv [48] = 0 := by
  have : [48] = txtQ 0 := by simp [txtQ, txtI, digs]
  rw [this, rv_txt]
theorem txtQ0 : txtQ 0 = [48] := by simp [txtQ, txtI, digs]
theorem floor_zb {m : Nat} {q : Rat} (h : Sz m q) : ZB m q.floor := by
  rw [Rat.floor_def]
  exact h.num.le (Int.natAbs_ediv_le_natAbs _ _)
section
variable {h : Heap} {K : Value -> Heap -> Prop} {m : Nat} {a b : List UInt8}
theorem valid_spec (gl : Gl h) (hl : a.length <= 100000000) (hK1 : IsNum a -> K (.bool true) h) (hK0 : ¬ IsNum a -> K (.bool false) h) : FCall Tryz.prog f_TValid #[.string (bs a)] h K := by
  refine FCall.pure (TValid_ok _ ?_)
  unfold TValid
  refine readShort_spec ?_ ?_
  . intro q e _ _
    exact ⟨_, _, _, rfl, Br.of (fun _ => ⟨Heap.le_refl _, hK1 ⟨q, e⟩⟩) (fun e => by cases e)⟩
  . refine ⟨_, _, _, rfl, Br.of (fun e => by cases e) (fun _ => ?_)⟩
    refine split_spec (by omega) ?_ ?_
    . intro neg x y f
      refine ⟨_, _, _, _, rfl, Br.of (fun e => by cases e) (fun _ => ?_)⟩
      have hlen := f.lens
      rw [bs_nil_beq]
      refine Br.dec (fun e => ?_) (fun e => ?_)
      . subst e
        exact ⟨Heap.le_refl _, hK1 (f.isNum.2 (by unfold fDen; simp))⟩
      . refine parse_spec f.da (by omega) ?_
        intro A1 n1 c1 h1 l1 i1
        refine ⟨_, _, _, _, rfl, l1, parse_spec f.db (by omega) ?_⟩
        intro A2 n2 c2 h2 l2 i2
        refine ⟨_, _, _, _, rfl, l2, zgcd_spec (gl.tz.mono (Heap.le_trans l1 l2)) (i1.mono l2) i2 (dval_zb f.da (k := a.length) (by omega)) (dval_zb f.db (k := a.length) (by omega)) (by omega) ?_⟩
        intro A3 n3 c3 h3 l3 i3
        refine ⟨_, _, _, _, rfl, l3, zisOne_spec i3 ⟨_, rfl, Heap.le_refl _, Heap.le_trans l1 (Heap.le_trans l2 l3), ?_⟩⟩
        rw [Int.gcd_natCast_natCast]
        have hfd : fDen y = dval y := by unfold fDen; rw [if_neg e]
        by_cases hg : Nat.gcd (dval x) (dval y) = 1
        . rw [decide_eq_true (by rw [hg]; rfl)]
          exact hK1 (f.isNum.2 (by rw [hfd]; exact hg))
        . rw [decide_eq_false (by omega)]
          exact hK0 (fun hn => hg (by rw [<- hfd]; exact f.isNum.1 hn))
    . intro hf neg x y
      refine ⟨_, _, _, _, rfl, Br.of (fun _ => ⟨Heap.le_refl _, hK0 ?_⟩) (fun e => by cases e)⟩
      intro hn
      obtain ⟨neg', a', b', f⟩ := hn.form
      exact hf _ _ _ f
theorem sgnQ_eq {q : Rat} (hq : q ≠ 0) (hneg : ¬ q < 0) : q.num.sign = 1 := by
  have h1 : ¬ q.num < 0 := fun e => hneg (by rw [Rat.lt_iff]; simpa using e)
  have h2 : q.num ≠ 0 := fun e => hq (Rat.num_eq_zero.1 e)
  exact Int.sign_eq_one_of_pos (by omega)
theorem tsign_spec (gl : Gl h) (hl : a.length <= 100000000) (hK : K (I (rv a).num.sign) h) : FCall Tryz.prog f_TSign #[.string (bs a)] h K := by
  refine TSign_ok _ ?_
  unfold TSign
  have e48 : ((bs a).toList == ({ data := #[48] } : ByteArray).toList) = decide (a = [48]) := bs_beq a [48]
  rw [e48]
  refine Br.dec (fun e => ?_) (fun e => ?_)
  . subst e; rw [rv48] at hK; exact hK
  . refine valid_spec gl hl ?_ ?_
    . rintro ⟨q, rfl⟩
      rw [rv_txt] at hK
      have hq0 : q ≠ 0 := by rintro rfl; exact e txtQ0
      obtain ⟨c, r, e1, e2⟩ := txtQ_head q
      refine ⟨_, rfl, Br.not ?_⟩
      refine ⟨c, ⟨by omega, by rw [bs_get, e1]; rfl⟩, Br.beq (fun h1 => ?_) (fun h1 => ?_)⟩
      . have hc : c = 45 := by apply UInt8.toNat_inj.1; show c.toNat = 45; omega
        have := (Rat.lt_iff q 0).1 (e2.1 hc)
        rw [Int.sign_eq_neg_one_of_neg (by simpa using this)] at hK
        exact hK
      . have hc : ¬ q < 0 := fun h2 => h1 (by rw [e2.2 h2]; rfl)
        rw [sgnQ_eq hq0 hc] at hK
        exact hK
    . intro hn
      rw [rv_not hn] at hK
      exact ⟨_, rfl, Br.not hK⟩
theorem tcompare_spec (gl : Gl h) (ta : Tx m a) (tb : Tx m b) (hm : 2 * m <= 6400000000) (hK : K (I (cmpQ (rv a) (rv b))) h) : FCall Tryz.prog f_TCompare #[.string (bs a), .string (bs b)] h K := by
  refine FCall.pure (TCompare_ok _ _ ?_)
  unfold TCompare
  refine readTwo_spec ?_ ?_
  . intro p q e1 e2 h1 h2 h3 h4
    rw [e1, e2, rv_txt, rv_txt] at hK
    refine ⟨_, _, _, _, _, rfl, Br.of (fun _ => TCompareInts_ok _ _ ?_) (fun e => by cases e)⟩
    unfold TCompareInts
    have b1 := prod18 h1 (show ((q.den : Nat) : Int).natAbs < 1000000000 by simpa using h4)
    have b2 := prod18 h3 (show ((p.den : Nat) : Int).natAbs < 1000000000 by simpa using h2)
    rw [wi64_id (by omega) (by omega), wi64_id (by omega) (by omega)]
    exact cmpI64_ok ⟨_, rfl, _, rfl, Heap.le_refl _, hK⟩
  . refine ⟨_, _, _, _, _, rfl, Br.of (fun e => by cases e) (fun _ => ?_)⟩
    refine value_spec gl.tz ta.len ?_
    intro w1 h1 l1 i1
    refine ⟨_, _, _, _, _, _, _, _, rfl, value_spec (gl.tz.mono l1) tb.len ?_⟩
    intro w2 h2 l2 i2
    refine ⟨_, _, _, _, _, _, _, _, rfl, rcompare_spec (i1.mono l2) i2 ta.sz tb.sz hm ⟨_, rfl, Heap.le_trans l1 l2, hK⟩⟩
theorem tmul_spec (gl : Gl h) (ta : Tx m a) (tb : Tx m b) (hm : 2 * m <= 40000000) (hK : K (.string (bs (txtQ (rv a * rv b)))) h) : FCall Tryz.prog f_TMul #[.string (bs a), .string (bs b)] h K := by
  refine FCall.pure (TMul_ok _ _ ?_)
  unfold TMul
  refine readTwo_spec ?_ ?_
  . intro p q e1 e2 h1 h2 h3 h4
    rw [e1, e2, rv_txt, rv_txt, mul_divInt] at hK
    refine ⟨_, _, _, _, _, rfl, Br.of (fun _ => ?_) (fun e => by cases e)⟩
    have b1 := prod18 h1 h3
    have b3 := prod18 (show ((p.den : Nat) : Int).natAbs < 1000000000 by simpa using h2) (show ((q.den : Nat) : Int).natAbs < 1000000000 by simpa using h4)
    rw [wi64_id (n := p.num * q.num) (by omega) (by omega), wi64_id (n := (p.den : Int) * q.den) (by omega) (by omega)]
    exact formatShort_spec gl.p10 (Int.mul_ne_zero (den_ne p) (den_ne q)) (by omega) (by omega) ⟨_, rfl, Heap.le_refl _, hK⟩
  . refine ⟨_, _, _, _, _, rfl, Br.of (fun e => by cases e) (fun _ => ?_)⟩
    refine value_spec gl.tz ta.len ?_
    intro w1 h1 l1 i1
    refine ⟨_, _, _, _, _, _, _, _, rfl, value_spec (gl.tz.mono l1) tb.len ?_⟩
    intro w2 h2 l2 i2
    refine ⟨_, _, _, _, _, _, _, _, rfl, rmul'_spec (gl.tz.mono (Heap.le_trans l1 l2)) (i1.mono l2) i2 ta.sz tb.sz (by omega) ?_⟩
    intro w3 h3 l3 i3
    have l13 := Heap.le_trans l1 (Heap.le_trans l2 l3)
    exact ⟨_, _, _, _, _, _, _, _, rfl, rstring_spec (gl.p10.mono l13) i3 (ta.sz.mul tb.sz) (by omega) ⟨_, rfl, l13, hK⟩⟩
theorem tdiv_spec (gl : Gl h) (ta : Tx m a) (tb : Tx m b) (hm1 : 1 <= m) (hm : 2 * m <= 40000000) (hK1 : rv b ≠ 0 -> K (.tuple #[.string (bs (txtQ (rv a / rv b))), .bool true]) h) (hK0 : rv b = 0 -> K (.tuple #[.string (bs []), .bool false]) h) : FCall Tryz.prog f_TDiv #[.string (bs a), .string (bs b)] h K := by
  refine FCall.pure (TDiv_ok _ _ ?_)
  unfold TDiv
  have slow : ∀ hp, hp = h -> FCall Tryz.prog f_TValue #[.string (bs b)] hp (fun r2 hp3 => ∃ (t350 : Bool) (t351A : Option Addr) (t351n : Nat) (t351c : Nat) (t352 : Bool) (t353A : Option Addr) (t353n : Nat) (t353c : Nat), r2 = .agg #[.bool t350, .slice t351A t351n t351c, .bool t352, .slice t353A t353n t353c] /\ FCall Tryz.prog f_RIsZero #[.agg #[.bool t350, .slice t351A t351n t351c, .bool t352, .slice t353A t353n t353c]] hp3 (fun r3 hp4 => ∃ (t37 : Bool), r3 = .bool t37 /\ Br t37 (h.le hp4 /\ K (.tuple #[.string ({ data := #[] } : ByteArray), .bool false]) h)
      (FCall Tryz.prog f_TValue #[.string (bs a)] hp4 (fun r4 hp5 => ∃ (t390 : Bool) (t391A : Option Addr) (t391n : Nat) (t391c : Nat) (t392 : Bool) (t393A : Option Addr) (t393n : Nat) (t393c : Nat), r4 = .agg #[.bool t390, .slice t391A t391n t391c, .bool t392, .slice t393A t393n t393c] /\ Heap.le hp4 hp5 /\ FCall Tryz.prog f_RDiv #[.agg #[.bool t390, .slice t391A t391n t391c, .bool t392, .slice t393A t393n t393c], .agg #[.bool t350, .slice t351A t351n t351c, .bool t352, .slice t353A t353n t353c]] hp5 (fun r5 hp6 => ∃ (t410 : Bool) (t411A : Option Addr) (t411n : Nat) (t411c : Nat) (t412 : Bool) (t413A : Option Addr) (t413n : Nat) (t413c : Nat), r5 = .agg #[.bool t410, .slice t411A t411n t411c, .bool t412, .slice t413A t413n t413c] /\ Heap.le hp5 hp6 /\ FCall Tryz.prog f_RString #[.agg #[.bool t410, .slice t411A t411n t411c, .bool t412, .slice t413A t413n t413c]] hp6 (fun r6 hp7 => ∃ (t42 : ByteArray), r6 = .string t42 /\ Heap.le hp6 hp7 /\ (h.le hp7 /\ K (.tuple #[.string t42, .bool true]) h))))))) := by
    rintro hp rfl
    refine value_spec gl.tz tb.len ?_
    intro w1 h1 l1 i1
    refine ⟨_, _, _, _, _, _, _, _, rfl, risZero_spec i1 ⟨_, rfl, Br.dec (fun e => ⟨l1, hK0 e⟩) (fun e => ?_)⟩⟩
    refine value_spec (gl.tz.mono l1) ta.len ?_
    intro w2 h2 l2 i2
    refine ⟨_, _, _, _, _, _, _, _, rfl, l2, rdiv'_spec (gl.tz.mono (Heap.le_trans l1 l2)) i2 (i1.mono l2) ta.sz tb.sz hm1 (by omega) ?_⟩
    intro w3 h3 l3 i3
    have l13 := Heap.le_trans l1 (Heap.le_trans l2 l3)
    exact ⟨_, _, _, _, _, _, _, _, rfl, l3, rstring_spec (gl.p10.mono l13) i3 (ta.sz.div tb.sz hm1) (by omega) ⟨_, rfl, Heap.le_refl _, l13, hK1 e⟩⟩
  refine readTwo_spec ?_ ?_
  . intro p q e1 e2 h1 h2 h3 h4
    refine ⟨_, _, _, _, _, rfl, fun L hp => L = [.bool (decide (q.num ≠ 0))] /\ hp = h, Br.of (fun _ => ⟨?_, rfl⟩) (fun e => by cases e), ?_⟩
    . by_cases h0 : q.num = 0 <;> simp [h0, bne]
    rintro t22 hp1 ⟨hL, rfl⟩
    obtain rfl : t22 = decide (q.num ≠ 0) := by simpa using hL
    refine Br.dec (fun h0 => ?_) (fun h0 => slow hp1 rfl)
    have hb0 : rv b ≠ 0 := by rw [e2, rv_txt]; exact fun e => h0 (Rat.num_eq_zero.2 e)
    have hK := hK1 hb0
    rw [e1, e2, rv_txt, rv_txt, div_divInt] at hK
    have b1 := prod18 h1 (show ((q.den : Nat) : Int).natAbs < 1000000000 by simpa using h4)
    have b3 := prod18 (show ((p.den : Nat) : Int).natAbs < 1000000000 by simpa using h2) h3
    rw [wi64_id (n := p.num * q.den) (by omega) (by omega), wi64_id (n := (p.den : Int) * q.num) (by omega) (by omega)]
    exact formatShort_spec gl.p10 (Int.mul_ne_zero (den_ne p) h0) (by omega) (by omega) ⟨_, rfl, Heap.le_refl _, hK⟩
  . refine ⟨_, _, _, _, _, rfl, fun L hp => L = [.bool false] /\ hp = h, Br.of (fun e => by cases e) (fun _ => ⟨rfl, rfl⟩), ?_⟩
    rintro t22 hp1 ⟨hL, rfl⟩
    obtain rfl : t22 = false := by simpa using hL
    exact Br.of (fun e => by cases e) (fun _ => slow hp1 rfl)
theorem tfloor_spec (gl : Gl h) (ta : Tx m a) (hm : m + 1 <= 40000000) (hK : K (.string (bs (txtI (rv a).floor))) h) : FCall Tryz.prog f_TFloor #[.string (bs a)] h K := by
  refine FCall.pure (TFloor_ok _ ?_)
  unfold TFloor
  refine value_spec gl.tz ta.len ?_
  intro w1 h1 l1 i1
  refine ⟨_, _, _, _, _, _, _, _, rfl, rfloor'_spec i1 ta.sz (by omega) ?_⟩
  intro s2 A2 n2 c2 h2 l2 i2
  exact ⟨_, _, _, _, rfl, zstring_spec (m := m) (gl.p10.mono (Heap.le_trans l1 l2)) i2 (floor_zb ta.sz) (by omega) ⟨_, rfl, Heap.le_trans l1 l2, hK⟩⟩
theorem tceil_spec (gl : Gl h) (ta : Tx m a) (hm : m + 1 <= 40000000) (hK : K (.string (bs (txtI (rv a).ceil))) h) : FCall Tryz.prog f_TCeil #[.string (bs a)] h K := by
  refine FCall.pure (TCeil_ok _ ?_)
  unfold TCeil
  refine value_spec gl.tz ta.len ?_
  intro w1 h1 l1 i1
  refine ⟨_, _, _, _, _, _, _, _, rfl, rceil_spec i1 ta.sz (by omega) ?_⟩
  intro s2 A2 n2 c2 h2 l2 i2
  refine ⟨_, _, _, _, rfl, zstring_spec (m := m) (gl.p10.mono (Heap.le_trans l1 l2)) i2 ?_ (by omega) ⟨_, rfl, Heap.le_trans l1 l2, hK⟩⟩
  rw [Rat.ceil_eq_neg_floor_neg]
  exact (floor_zb ta.sz.neg).neg
end
end Go.Proofs.YtekkjhmfjplljaaGreatDoor
/-
  Powers of integers: powerWords, Pow.
-/
namespace Go.Proofs.YtekkjhmfjplljaaGreatDoor
open Go
set_option maxRecDepth 20000
theorem half_pow (n j : Nat) : n / 2 ^ j = 2 * (n / 2 ^ (j + 1)) + n / 2 ^ j % 2 := by
  rw [Nat.pow_succ, <- Nat.div_div_eq_div_mul]
  omega
theorem two_len {h : Heap} {A : Option Addr} {n : Nat} {v : Int} {b : Nat} (m : Mw h A n v) (hv : v < 2 ^ b) (hb : b <= 6400000000) : n <= 100000000 := by
  obtain ⟨k, hk⟩ : ∃ k, k = 100000000 := ⟨_, rfl⟩
  rw [<- hk]
  refine m.len_le (by decide) ?_
  rw [pow_b64]
  exact Int.lt_of_lt_of_le hv (pow_le_pow' (B := 2) (by decide) (by omega))
theorem pow_lt_two {x : Nat} {m : Nat} (hx : x < 2 ^ m) (hm : 1 <= m) (k : Nat) : x ^ k < 2 ^ (m * k + 1) := by
  have h1 : x ^ k <= (2 ^ m) ^ k := Nat.pow_le_pow_left (Nat.le_of_lt hx) k
  rw [<- Nat.pow_mul] at h1
  have h2 : 2 ^ (m * k) < 2 ^ (m * k + 1) := Nat.pow_lt_pow_right (by decide) (by omega)
  omega
section
variable {h g : Heap} {K : Value -> Heap -> Prop} {A B : Option Addr} {s s' : Bool} {an ac bn bc m : Nat} {x y : Int}
theorem blen_ok {n : Nat} (hx : n < 18446744073709551616) (hK : K (I (blen n)) h) : FCall Tryz.prog f_BLen #[U n] h K := by
  refine BLen_ok _ ?_
  unfold BLen
  exact len64_ok hx ⟨_, rfl, hK⟩
theorem powerWords_spec {x n xn xc : Nat} (M : Mw h A xn (x : Int)) (hc : xn <= xc) (hx : x < 2 ^ m) (hm1 : 1 <= m) (hm : m * n + 1 <= 6400000000) (hn : n < 9223372036854775808) (hmm : m <= 6400000000)
    (hK : ∀ A' n' c' h', h.le h' -> n' <= c' -> Mw h' A' n' ((x ^ n : Nat) : Int) -> K (.slice A' n' c') h') : FCall Tryz.prog f_WPowerWords #[.slice A xn xc, U (n : Int)] h K := by
  refine WPowerWords_ok _ _ _ _ ?_
  unfold WPowerWords
  have hxlen : xn <= 100000000 := two_len (b := m) M (by
    have : ((x : Nat) : Int) < ((2 ^ m : Nat) : Int) := Int.ofNat_lt.2 hx
    rw [Int.natCast_pow] at this; exact this) hmm
  refine lit1_ok tU64s rfl ?_
  intro b hb
  refine ⟨_, _, _, rfl, blen_ok (by omega) ⟨_, rfl, ?_⟩⟩
  have hb64 : blen n <= 63 := blen_le (by
    have : (2 : Nat) ^ 63 = 9223372036854775808 := by decide
    omega)
  have M1 : Mw (h.put b (.cells #[U 1] ty_tU64s_e)) (some ⟨b, 0, none⟩) 1 ((x ^ (n / 2 ^ blen n) : Nat) : Int) := by
    have e0 : n / 2 ^ blen n = 0 := by
      apply Nat.div_eq_of_lt
      by_cases h0 : n = 0
      . subst h0; exact Nat.pow_pos (by decide)
      . exact (blen_spec h0).2
    rw [e0, Nat.pow_zero]
    refine ⟨[1], rfl, SlI.new _ _ _ _ _, ?_, ?_, ?_⟩
    . intro x hx; simp at hx; subst hx; decide
    . unfold Norm; simp
    . simp [val]
  refine ⟨fun L hp => ∃ (RA : Option Addr) (rn rc j : Nat), L = [.slice RA rn rc, I ((j : Int) - 1)] /\ j <= blen n /\ h.le hp /\ rn <= rc /\ Mw hp RA rn ((x ^ (n / 2 ^ j) : Nat) : Int), fun L _ => (iAt L 1 + 1).toNat, ⟨_, 1, 1, blen n, by rw [wi64_id (by omega) (by omega)], Nat.le_refl _, Heap.le_put _ hb, Nat.le_refl _, M1⟩, ?_⟩
  rintro RA rn rc i hp ⟨RA', rn', rc', j, hL, hj, lh, hrc, MR⟩
  simp only [List.cons.injEq, Value.slice.injEq, Value.int.injEq, and_true, true_and] at hL
  obtain ⟨⟨rfl, rfl, rfl⟩, rfl⟩ := hL
  have lenR : ∀ {h' : Heap} {A' : Option Addr} {n' k : Nat}, k <= n -> Mw h' A' n' ((x ^ k : Nat) : Int) -> n' <= 100000000 := by
    intro h' A' n' k hk M'
    refine two_len (b := m * n + 1) M' ?_ hm
    have h1 := pow_lt_two hx hm1 k
    have h2 : 2 ^ (m * k + 1) <= 2 ^ (m * n + 1) := Nat.pow_le_pow_right (by decide) (by have := Nat.mul_le_mul_left m hk; omega)
    have h3 : ((x ^ k : Nat) : Int) < ((2 ^ (m * n + 1) : Nat) : Int) := Int.ofNat_lt.2 (by omega)
    rw [Int.natCast_pow (n := m * n + 1)] at h3
    exact h3
  refine Br.dec (fun h0 => ?_) (fun h0 => ?_)
  . obtain ⟨j, rfl⟩ : ∃ i, j = i + 1 := ⟨j - 1, by omega⟩
    have e0 : ((j + 1 : Nat) : Int) - 1 = (j : Int) := by omega
    simp only [e0]
    have hr1 := lenR (Nat.div_le_self _ _) MR
    have hhalf := half_pow n j
    have hle := Nat.div_le_self n (2 ^ j)
    refine multiplyWords_spec MR MR hrc hrc (by omega) (by omega) ?_
    intro A2 n2 c2 h2 l2 k2 M2
    refine ⟨_, _, _, rfl, ?_⟩
    have e1 : wu64 (j : Int) = (j : Int) := wu64_id (by omega) (by omega)
    rw [e1]
    refine Br.dec (fun e => absurd e (by omega)) (fun _ => ?_)
    rw [Int.toNat_natCast, shrN (by omega)]
    have e2 : (n : Int) / 2 ^ j = ((n / 2 ^ j : Nat) : Int) := by rw [Int.natCast_ediv, Int.natCast_pow]; rfl
    rw [e2, band_one64 (by omega)]
    rw [<- Int.natCast_mul, <- Nat.pow_add] at M2
    have e3 : wi64 ((j : Int) - 1) = (j : Int) - 1 := wi64_id (by omega) (by omega)
    rw [e3]
    have hmu : ∀ (q : Value), (iAt [q, I ((j : Int) - 1)] 1 + 1).toNat < (iAt [.slice RA rn rc, I (j : Int)] 1 + 1).toNat := by
      intro q
      simp only [iAt, List.getElem?_cons_zero, List.getElem?_cons_succ]
      omega
    refine Br.beq (fun hodd => ?_) (fun hev => ?_)
    . have hn2 := lenR (by omega) M2
      refine multiplyWords_spec M2 (M.mono (Heap.le_trans lh l2)) k2 hc (by omega) (by omega) ?_
      intro A3 n3 c3 h3 l3 k3 M3
      refine ⟨_, _, _, rfl, ⟨A3, n3, c3, j, rfl, by omega, Heap.le_trans lh (Heap.le_trans l2 l3), k3, ?_⟩, hmu _⟩
      rw [<- Int.natCast_mul, <- Nat.pow_succ] at M3
      rw [show n / 2 ^ j = n / 2 ^ (j + 1) + n / 2 ^ (j + 1) + 1 by omega]
      exact M3
    . refine ⟨⟨A2, n2, c2, j, rfl, by omega, Heap.le_trans lh l2, k2, ?_⟩, hmu _⟩
      rw [show n / 2 ^ j = n / 2 ^ (j + 1) + n / 2 ^ (j + 1) by omega]
      exact M2
  . obtain rfl : j = 0 := by omega
    rw [Nat.pow_zero, Nat.div_one] at MR
    exact hK _ _ _ _ lh hrc MR
theorem neg_pow (x : Int) (n : Nat) : (-x) ^ n = if n % 2 = 1 then -(x ^ n) else x ^ n := by
  induction n with
  | zero => simp
  | succ n ih =>
    rw [Int.pow_succ, Int.pow_succ, ih]
    by_cases h : n % 2 = 1
    . rw [if_pos h, if_neg (by omega), Int.neg_mul_neg]
    . rw [if_neg h, if_pos (by omega), Int.mul_neg]
theorem zpow_spec {n : Nat} (i : ZI h s A an ac x) (hx : ZB m x) (hm1 : 1 <= m) (hm : m * n + 1 <= 6400000000) (hmm : m <= 6400000000) (hn : n < 9223372036854775808) (hK : ∀ s1 A' n' c' h', h.le h' -> ZI h' s1 A' n' c' (x ^ n) -> K (.agg #[.bool s1, .slice A' n' c']) h') : FCall Tryz.prog f_ZPow #[.agg #[.bool s, .slice A an ac], U (n : Int)] h K := by
  have cx := sgn_cases i.sgn
  refine ZPow_ok _ _ _ _ _ ?_
  unfold ZPow
  refine Br.of (fun e => ?_) (fun e => ?_)
  . refine powerWords_spec i.mag i.cap hx hm1 hm hn hmm ?_
    intro A1 n1 c1 h1 l1 k1 M1
    refine ⟨_, _, _, rfl, ?_⟩
    rw [band_one64 (by omega)]
    refine signed_spec M1 k1 ?_
    intro s1 i1
    refine ⟨_, _, _, _, rfl, hK _ _ _ _ _ l1 ?_⟩
    have hx' : x = -(x.natAbs : Int) := by
      rcases cx with ⟨_, h2⟩ | ⟨h2, _⟩
      . exact h2
      . rw [e] at h2; cases h2
    have : x ^ n = if ((n : Int) % 2 == 1) = true then -((x.natAbs ^ n : Nat) : Int) else ((x.natAbs ^ n : Nat) : Int) := by
      conv => lhs; rw [hx', neg_pow]
      rw [Int.natCast_pow]
      by_cases hp : n % 2 = 1
      . rw [if_pos hp, if_pos (by simp; omega)]
      . rw [if_neg hp, if_neg (by simp; omega)]
    rw [this]; exact i1
  . refine powerWords_spec i.mag i.cap hx hm1 hm hn hmm ?_
    intro A1 n1 c1 h1 l1 k1 M1
    refine ⟨_, _, _, rfl, ?_⟩
    refine signed_spec M1 k1 ?_
    intro s1 i1
    refine ⟨_, _, _, _, rfl, hK _ _ _ _ _ l1 ?_⟩
    have hx' : x = (x.natAbs : Int) := by
      rcases cx with ⟨h2, _⟩ | ⟨_, h2⟩
      . rw [e] at h2; cases h2
      . exact h2
    have : x ^ n = ((x.natAbs ^ n : Nat) : Int) := by rw [Int.natCast_pow, <- hx']
    rw [this]; exact i1
end
end Go.Proofs.YtekkjhmfjplljaaGreatDoor
/-
  Powers of numbers: Ratio.Pow, rational.Pow.
-/
namespace Go.Proofs.YtekkjhmfjplljaaGreatDoor
open Go
set_option maxRecDepth 20000
theorem ratpow_parts (q : Rat) (n : Nat) : (q ^ n).num = q.num ^ n /\ (q ^ n).den = q.den ^ n := ⟨Rat.num_pow q n, Rat.den_pow q n⟩
theorem ZB.pow {m : Nat} {x : Int} (h : ZB m x) (hm : 1 <= m) (n : Nat) : ZB (m * n + 1) (x ^ n) := by
  unfold ZB
  rw [Int.natAbs_pow]
  exact pow_lt_two h hm n
theorem Sz.pow {m : Nat} {q : Rat} (h : Sz m q) (hm : 1 <= m) (n : Nat) : Sz (m * n + 1) (q ^ n) := by
  obtain ⟨h1, h2⟩ := ratpow_parts q n
  refine ⟨by rw [h1]; exact h.num.pow hm n, ?_⟩
  rw [h2, Int.natCast_pow]; exact h.den.pow hm n
section
variable {h : Heap} {K : Value -> Heap -> Prop} {m : Nat} {a b : List UInt8} {w : QV} {q : Rat}
theorem rpow_spec {n : Nat} (i : RQ h w q) (hq : Sz m q) (hm1 : 1 <= m) (hm : m * n + 1 <= 6400000000) (hmm : m <= 6400000000) (hn : n < 9223372036854775808) (hK : ∀ w h', h.le h' -> RQ h' w (q ^ n) -> K w.v h') : FCall Tryz.prog f_RPow #[w.v, U (n : Int)] h K := by
  obtain ⟨p1, p2⟩ := ratpow_parts q n
  refine RPow_ok _ _ _ _ _ _ _ _ _ ?_
  unfold RPow
  refine isZero_den i ⟨_, rfl, Br.dec (fun e => ?_) (fun e => ?_)⟩
  . refine zpow_spec i.num hq.num hm1 hm hmm hn ?_
    intro s1 A1 n1 c1 h1 l1 i1
    refine ⟨_, _, _, _, rfl, hK ⟨s1, A1, n1, c1, false, none, 0, 0⟩ _ l1 ⟨by rw [p1]; exact i1, ?_⟩⟩
    rw [p2, e, Nat.one_pow, if_pos rfl]; exact ZI.zero
  . have idn := i.den
    rw [if_neg e] at idn
    refine zpow_spec i.num hq.num hm1 hm hmm hn ?_
    intro s1 A1 n1 c1 h1 l1 i1
    refine ⟨_, _, _, _, rfl, l1, zpow_spec (idn.mono l1) hq.den hm1 hm hmm hn ?_⟩
    intro s2 A2 n2 c2 h2 l2 i2
    refine ⟨_, _, _, _, rfl, l2, lowest_spec (q := q ^ n) (i1.mono l2) i2 p1 (by rw [p2, Int.natCast_pow]) ?_⟩
    intro w3 i3
    exact ⟨_, _, _, _, _, _, _, _, rfl, Heap.le_refl _, hK w3 _ (Heap.le_trans l1 l2) i3⟩
theorem tpow_spec {n : Int} (gl : Gl h) (ta : Tx m a) (hm1 : 1 <= m) (hm : m * n.natAbs + 1 <= 40000000) (hmm : m <= 40000000)
    (hK1 : -1000 <= n -> n <= 1000 -> 0 <= n -> K (.tuple #[.string (bs (txtQ (rv a ^ n.natAbs))), .bool true]) h)
    (hK2 : -1000 <= n -> n < 0 -> rv a ≠ 0 -> K (.tuple #[.string (bs (txtQ ((rv a)⁻¹ ^ n.natAbs))), .bool true]) h)
    (hK0 : ¬ (-1000 <= n /\ n <= 1000) \/ (n < 0 /\ rv a = 0) -> K (.tuple #[.string (bs []), .bool false]) h) : FCall Tryz.prog f_TPow #[.string (bs a), I n] h K := by
  refine FCall.pure (TPow_ok _ _ ?_)
  unfold TPow
  refine Br.dec (fun e => ⟨Heap.le_refl _, hK0 (.inl (by omega))⟩) (fun e1 => Br.dec (fun e => ⟨Heap.le_refl _, hK0 (.inl (by omega))⟩) (fun e2 => ?_))
  refine value_spec gl.tz ta.len ?_
  intro w1 h1 l1 i1
  refine ⟨_, _, _, _, _, _, _, _, rfl, Br.dec (fun e3 => ?_) (fun e3 => ?_)⟩
  . refine risZero_spec i1 ⟨_, rfl, Br.dec (fun e => ⟨l1, hK0 (.inr ⟨e3, e⟩)⟩) (fun e => ?_)⟩
    refine rinverse_spec i1 ?_
    intro w2 h2 l2 i2
    have en : wu64 (wi64 (0 - n)) = (n.natAbs : Int) := by rw [wi64_id (by omega) (by omega), wu64_id (by omega) (by omega)]; omega
    rw [en]
    refine ⟨_, _, _, _, _, _, _, _, rfl, rpow_spec i2 (ta.sz.inv hm1) hm1 (by omega) (by omega) (by omega) ?_⟩
    intro w3 h3 l3 i3
    have l13 := Heap.le_trans l1 (Heap.le_trans l2 l3)
    exact ⟨_, _, _, _, _, _, _, _, rfl, rstring_spec (gl.p10.mono l13) i3 ((ta.sz.inv hm1).pow hm1 _) (by omega) ⟨_, rfl, l13, hK2 (by omega) e3 e⟩⟩
  . have en : wu64 n = (n.natAbs : Int) := by rw [wu64_id (by omega) (by omega)]; omega
    rw [en]
    refine rpow_spec i1 ta.sz hm1 (by omega) (by omega) (by omega) ?_
    intro w3 h3 l3 i3
    have l13 := Heap.le_trans l1 l3
    exact ⟨_, _, _, _, _, _, _, _, rfl, rstring_spec (gl.p10.mono l13) i3 (ta.sz.pow hm1 _) (by omega) ⟨_, rfl, l13, hK1 (by omega) (by omega) (by omega)⟩⟩
end
end Go.Proofs.YtekkjhmfjplljaaGreatDoor
