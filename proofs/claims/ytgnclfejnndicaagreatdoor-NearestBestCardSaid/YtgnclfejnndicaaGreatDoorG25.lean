/-
  Texts of this proof, merged by a program of ours: NearM, NearN, NearH, NearO, NearP.
-/
import Derived.Test.YtgnclfejnndicaaGreatDoorG23
import Derived.Test.YtgnclfejnndicaaGreatDoorG24
import Derived.Lib.Bytealg
/-
  strings.Contains of one byte, Abs, the nearer of two fractions, Best of the program.
-/
namespace Go.Proofs.YtgnclfejnndicaaGreatDoor
open Go
set_option maxRecDepth 20000
theorem ext_run {P : Program} {f : FuncId} {e : Array Value → Sem Value} (x : ExtF P f e) {args : Array Value} {h : Heap} {K : Value → Heap → Prop} {r : Value} (hr : ∀ W, (e args).run P W = .ok r W) (hK : K r h) : ECall P f args h K := by
  obtain ⟨fn, hf, h1, h2, h3, h4⟩ := x
  intro W hs
  refine ⟨r, W, h, ?_, hK, Fr.refl hs⟩
  have h3' : Extern.findNext fn = none := Option.isNone_iff_eq_none.1 h3
  have := hr W
  unfold callFunc
  have h1' : fn.name ≠ "runtime.NumGoroutine" := by simpa using h1
  have h2' : fn.body = none := by simpa using h2
  have h5 : (Sem.run P (e args) W) = .ok r W := this
  simp [program, Sem.run_bind, Sem.run, hf, h1', h2', h3', h4, mark] at h5 ⊢
  rw [h5]; rfl
theorem indexByte_mem (l : List UInt8) (c : UInt8) : 0 ≤ Lib.indexByte l c ↔ c ∈ l := by
  induction l with
  | nil => simp [Lib.indexByte]
  | cons b l ih =>
    have hge := Lib.indexByte_ge l c
    unfold Lib.indexByte
    by_cases hb : b = c
    · simp [hb]
    · have hb' : (b == c) = false := by simpa using hb
      rw [hb']
      simp only [Bool.false_eq_true, if_false, List.mem_cons, ← ih]
      have hcb : c ≠ b := fun e => hb e.symm
      by_cases hm : Lib.indexByte l c = -1
      · rw [hm]; simp [hcb]
      · have hm' : (Lib.indexByte l c == -1) = false := by simpa using hm
        rw [hm']
        simp only [Bool.false_eq_true, if_false, hcb, false_or]
        omega
theorem slash_txt (q : Rat) : (47 : UInt8) ∈ txtQ q ↔ q.den ≠ 1 := by
  have hd : ∀ n, (47 : UInt8) ∉ digs n := fun n hm => (isDig_ne (digs_dig n _ hm)).2 rfl
  have hi : (47 : UInt8) ∉ txtI q.num := by
    unfold txtI
    split
    · intro hm
      rcases List.mem_cons.1 hm with e | e
      · exact absurd e (by decide)
      · exact hd _ e
    · exact hd _
  unfold txtQ
  rw [List.mem_append]
  split
  · rename_i e; simp [hi, e]
  · rename_i e; simp [e]
theorem pow2_lt_pow10 (m : Nat) : 2 ^ m < 10 ^ (m / 3 + 1) := by
  have h1 : 2 ^ m < 2 ^ (3 * (m / 3 + 1)) := Nat.pow_lt_pow_right (by decide) (by omega)
  rw [Nat.pow_mul] at h1
  exact Nat.lt_of_lt_of_le h1 (Nat.pow_le_pow_left (by decide) _)
theorem digs_len3 {m n : Nat} (h : n < 2 ^ m) : (digs n).length ≤ m / 3 + 1 := (digs_len (by omega)).2 (Nat.lt_trans h (pow2_lt_pow10 m))
theorem txtI_len3 {m : Nat} {z : Int} (h : ZB m z) : (txtI z).length ≤ m / 3 + 2 := by
  have := digs_len3 h
  unfold txtI; split <;> simp <;> omega
theorem txtQ_len3 {m : Nat} {q : Rat} (h : Sz m q) : (txtQ q).length ≤ 2 * (m / 3) + 4 := by
  have h1 := txtI_len3 h.num
  have h2 : (digs q.den).length ≤ m / 3 + 1 := digs_len3 (by have := h.den; unfold ZB at this; rwa [Int.natAbs_natCast] at this)
  unfold txtQ
  rw [List.length_append]
  split
  · simp; omega
  · simp; omega
theorem Tx.big {m : Nat} {q : Rat} (h : Sz m q) (hm : m ≤ 840) : Tx m (txtQ q) := ⟨by have := txtQ_len3 h; omega, by rw [rv_txt]; exact h⟩
theorem Tx.bigI {m : Nat} {z : Int} (h : ZB m z) (hm1 : 1 ≤ m) (hm : m ≤ 840) : Tx m (txtI z) := ⟨by have := txtI_len3 h; omega, by rw [rv_txtI]; exact Sz.int h hm1⟩
theorem ab_comm (x y : Rat) : ab (x - y) = ab (y - x) := by unfold ab; split <;> split <;> grind
section
variable {h g : Heap} {K : Value → Heap → Prop} {m : Nat} {a x y : List UInt8} {q : Rat}
theorem contains_spec (hK : K (.bool (decide ((47 : UInt8) ∈ a))) h) : FCall Tryz.prog f_SContains #[.string (bs a), .string (bs [47])] h K := by
  refine SContains_ok _ _ ?_
  unfold SContains
  refine SIndex_ok _ _ ?_
  unfold SIndex
  refine SIndexL_ok _ _ ?_
  unfold SIndexL
  have e1 : (((bs [47]).size : Nat) : Int) = 1 := rfl
  refine ⟨fun L hp => L = [.bool (decide ([47] = a))] ∧ hp = h, Br.beq (fun e => absurd e (by rw [e1]; decide)) (fun _ => ⟨by rw [bs_beq], rfl⟩), ?_⟩
  rintro t16 hp ⟨hL, rfl⟩
  obtain rfl : t16 = decide ([47] = a) := by simpa using hL
  refine Br.dec (fun e => ?_) (fun e => ?_)
  · subst e
    exact ⟨_, rfl, _, rfl, hK⟩
  · refine Br.beq (fun _ => ?_) (fun e => absurd e1 e)
    refine ⟨47, ⟨by decide, rfl⟩, SIndexByte_ok _ _ ?_⟩
    unfold SIndexByte
    refine ext_run SIbs_ext (fun W => Lib.run_indexByteString _ _ W) ?_
    refine ⟨_, rfl, _, rfl, _, rfl, _, rfl, ?_⟩
    have e2 : (decide (Lib.indexByte (bs a).data.toList (((47 : UInt8).toNat : Nat) : Int).toNat.toUInt8 ≥ 0)) = decide ((47 : UInt8) ∈ a) := by
      rw [decide_eq_decide, bs_data]
      exact indexByte_mem a 47
    rw [e2]; exact hK
theorem isInteger_spec (hq : a = txtQ q) (hK : K (.bool (decide (q.den = 1))) h) : FCall Tryz.prog f_EIsInteger #[.string (bs a)] h K := by
  refine EIsInteger_ok _ ?_
  unfold EIsInteger
  refine contains_spec ⟨_, rfl, ?_⟩
  have e : (!(decide ((47 : UInt8) ∈ a))) = decide (q.den = 1) := by
    have := slash_txt q
    subst hq
    by_cases h1 : q.den = 1
    · simp [this, h1]
    · simp [this, h1]
  rw [e]; exact hK
theorem tabs_spec (gl : Gl h) (hl : (txtQ q).length ≤ 570) (hK : K (qv (ab q)) h) : FCall Tryz.prog f_TAbs #[qv q] h K := by
  refine TAbs_ok _ ?_
  unfold TAbs
  refine valid_spec gl hl (fun _ => ?_) (fun e => absurd ⟨q, rfl⟩ e)
  refine ⟨_, rfl, Br.not ?_⟩
  refine CTrimPrefix_ok _ _ ?_
  unfold CTrimPrefix
  refine QTrimPrefix_ok _ _ ?_
  unfold QTrimPrefix
  refine QHasPrefix_ok _ _ ?_
  unfold QHasPrefix
  have e45 : ({ data := #[45] } : ByteArray) = bs [45] := rfl
  rw [e45]
  simp only [bs_size]
  obtain ⟨c, r, e1, e2⟩ := txtQ_head q
  have hlen : 1 ≤ (txtQ q).length := by rw [e1]; simp
  refine Br.dec (fun _ => ?_) (fun e => absurd hlen (by simp at e; omega))
  refine ⟨⟨by simp, by simp; omega⟩, _, rfl, ?_⟩
  have ex : (bs (txtQ q)).extract 0 ((([45] : List UInt8).length : Nat) : Int).toNat = bs ((txtQ q).take 1) := by
    rw [bs_extract]; simp
  rw [ex, bs_beq]
  refine Br.dec (fun e => ?_) (fun e => ?_)
  · have hneg : q < 0 := by rw [e1] at e; simp at e; exact e2.1 e
    refine ⟨⟨by simp, by simp; omega⟩, _, rfl, _, rfl, ?_⟩
    rw [show qv (ab q) = .string (bs (txtQ (-q))) by unfold ab; rw [if_pos hneg]] at hK
    rw [show (bs (txtQ q)).extract ((([45] : List UInt8).length : Nat) : Int).toNat (txtQ q).length = bs (txtQ (-q)) by
      rw [bs_extract, txtQ_neg hneg]; simp]
    exact hK
  · have hneg : ¬ q < 0 := by
      intro hn
      apply e
      rw [e1, e2.2 hn]; rfl
    refine ⟨_, rfl, _, rfl, ?_⟩
    rw [show qv (ab q) = .string (bs (txtQ q)) by unfold ab; rw [if_neg hneg]] at hK
    exact hK
theorem enear1_spec {v : Rat} {p r : Int} {f : Addr} (gl : Gl h) (hc : h.cell? f = some (qv q)) (h1 : v.num = p) (h2 : (v.den : Int) = r) (sq : Sz m q) (sv : Sz m v) (hm1 : 1 ≤ m) (hm : m ≤ 419) (hK : K (qv (ab (v - q))) h) : FCall Tryz.prog f_ENear1 #[.agg #[.string (bs (txtI p)), .string (bs (txtI r))], .pointer (some f)] h K := by
  refine ENear1_ok _ _ _ ?_
  unfold ENear1
  have l1 : (txtI p).length ≤ 10000 := by rw [← h1]; have := txtI_len sv.num; omega
  have l2 : (txtI r).length ≤ 10000 := by rw [← h2]; have := txtI_len sv.den; omega
  refine ⟨_, hc, enumber_spec h1 h2 l1 l2 ⟨_, rfl, Heap.le_refl _, ?_⟩⟩
  refine tsub_spec gl (Tx.big sq (by omega)) (Tx.big sv (by omega)) (by omega) ⟨_, rfl, Heap.le_refl _, ?_⟩
  rw [rv_txt, rv_txt]
  have ss := sq.sub sv
  refine tabs_spec gl (by have := txtQ_len3 ss; omega) ⟨_, rfl, Heap.le_refl _, ?_⟩
  rw [ab_comm]; exact hK
theorem Sz.ab' {q : Rat} (h : Sz m q) : Sz m (ab q) := by
  unfold ab; split
  · exact h.neg
  · exact h
theorem enearer_spec {c e : Rat} {p r p2 r2 : Int} (gl : Gl h) (c1 : c.num = p) (c2 : (c.den : Int) = r) (e1 : e.num = p2) (e2 : (e.den : Int) = r2) (sq : Sz m q) (sc : Sz m c) (se : Sz m e) (hm1 : 1 ≤ m) (hm : m ≤ 419) (hK : ∀ v h', h.le h' → ((v = c ∧ bett q c e) ∨ (v = e ∧ bett q e c)) → K (qv v) h') : FCall Tryz.prog f_ENearer #[.string (bs (txtQ q)), .agg #[.string (bs (txtI p)), .string (bs (txtI r))], .agg #[.string (bs (txtI p2)), .string (bs (txtI r2))]] h K := by
  refine ENearer_ok _ _ _ _ _ ?_
  unfold ENearer
  refine box_ok ?_
  intro b hb
  have l0 := Heap.le_put (.cells (Value.string (bs (txtQ q))).cells 9) hb
  have hcell : (h.put b (.cells (Value.string (bs (txtQ q))).cells 9)).cell? ⟨b, 0, none⟩ = some (qv q) := by rw [Heap.cell_put]; rfl
  have gl' := gl.mono l0
  generalize (h.put b (.cells (Value.string (bs (txtQ q))).cells 9)) = h1 at *
  have zc : ZB m p := by rw [← c1]; exact sc.num
  have zr : ZB m r := by rw [← c2]; exact sc.den
  have ze : ZB m p2 := by rw [← e1]; exact se.num
  have zr2 : ZB m r2 := by rw [← e2]; exact se.den
  have lp : (txtI p).length ≤ 10000 := by have := txtI_len zc; omega
  have lr : (txtI r).length ≤ 10000 := by have := txtI_len zr; omega
  have lp2 : (txtI p2).length ≤ 10000 := by have := txtI_len ze; omega
  have lr2 : (txtI r2).length ≤ 10000 := by have := txtI_len zr2; omega
  refine ⟨_, rfl, enear1_spec gl' hcell c1 c2 sq sc hm1 hm ⟨_, rfl, Heap.le_refl _, ?_⟩⟩
  refine enear1_spec gl' hcell e1 e2 sq se hm1 hm ⟨_, rfl, Heap.le_refl _, ?_⟩
  have s1 := (sc.sub sq).ab'
  have s2 := (se.sub sq).ab'
  refine tcompare_spec gl' (Tx.big s1 (by omega)) (Tx.big s2 (by omega)) (by omega) ⟨_, rfl, Heap.le_refl _, ?_⟩
  rw [rv_txt, rv_txt]
  refine ⟨fun L hp => hp = h1 ∧ ∃ o : Int, L = [I o] ∧ (o < 0 → bett q c e ∧ ¬ bett q e c) ∧ (0 < o → bett q e c) ∧ (o = 0 → ab (c - q) = ab (e - q) ∧ c.den = e.den), Br.beq (fun eq0 => ?_) (fun ne0 => ?_), ?_⟩
  · have hd := cmpQ_eq.1 eq0
    refine tcompare_spec gl' (m := 568) (Tx.bigI (zr.mono (by omega)) (by omega) (by omega)) (Tx.bigI (zr2.mono (by omega)) (by omega) (by omega)) (by omega) ⟨_, rfl, rfl, _, rfl, ?_⟩
    rw [rv_txtI, rv_txtI]
    refine ⟨fun h3 => ?_, fun h3 => ?_, fun h3 => ?_⟩
    · have h4 := Rat.intCast_lt_intCast.1 (cmpQ_lt.1 h3)
      have h5 : c.den < e.den := by omega
      refine ⟨.inr ⟨hd, .inl h5⟩, fun h6 => ?_⟩
      unfold bett at h6
      rw [hd] at h6
      rcases h6 with h6 | ⟨_, h6 | ⟨h6, _⟩⟩
      · exact Rat.lt_irrefl h6
      · omega
      · omega
    · have h4 := Rat.intCast_lt_intCast.1 (cmpQ_gt.1 h3)
      exact .inr ⟨hd.symm, .inl (by omega)⟩
    · have h4 := Rat.intCast_inj.1 (cmpQ_eq.1 h3)
      exact ⟨hd, by omega⟩
  · refine ⟨rfl, _, rfl, fun h3 => ?_, fun h3 => .inl (cmpQ_gt.1 h3), fun h3 => absurd h3 ne0⟩
    have h4 := cmpQ_lt.1 h3
    refine ⟨.inl h4, fun h6 => ?_⟩
    unfold bett at h6
    rcases h6 with h6 | ⟨h6, _⟩
    · grind
    · rw [h6] at h4; exact Rat.lt_irrefl h4
  rintro order hp5 ⟨rfl, o, hL, k1, k2, k3⟩
  obtain rfl : order = o := by simpa using hL
  refine ⟨fun L hp => hp = hp5 ∧ ∃ o : Int, L = [I o] ∧ (o ≤ 0 → bett q c e) ∧ (0 < o → bett q e c), Br.beq (fun eq0 => ?_) (fun ne0 => ?_), ?_⟩
  · obtain ⟨d1, d2⟩ := k3 eq0
    refine enumber_spec c1 c2 lp lr ⟨_, rfl, Heap.le_refl _, enumber_spec e1 e2 lp2 lr2 ⟨_, rfl, Heap.le_refl _, ?_⟩⟩
    refine tcompare_spec gl' (Tx.big sc (by omega)) (Tx.big se (by omega)) (by omega) ⟨_, rfl, Heap.le_refl _, rfl, _, rfl, ?_⟩
    rw [rv_txt, rv_txt]
    refine ⟨fun h3 => .inr ⟨d1, .inr ⟨d2, cmpQ_le.1 h3⟩⟩, fun h3 => .inr ⟨d1.symm, .inr ⟨d2.symm, Rat.le_of_lt (cmpQ_gt.1 h3)⟩⟩⟩
  · exact ⟨rfl, _, rfl, fun h3 => (k1 (by omega)).1, k2⟩
  rintro order1 hp9 ⟨rfl, o1, hL1, k4, k5⟩
  obtain rfl : order1 = o1 := by simpa using hL1
  refine Br.dec (fun h3 => ?_) (fun h3 => ?_)
  · exact enumber_spec c1 c2 lp lr ⟨_, rfl, hK _ _ l0 (.inl ⟨rfl, k4 h3⟩)⟩
  · exact enumber_spec e1 e2 lp2 lr2 ⟨_, rfl, hK _ _ l0 (.inr ⟨rfl, k5 (by omega)⟩)⟩
end
end Go.Proofs.YtgnclfejnndicaaGreatDoor
/-
  Best of the program.
-/
namespace Go.Proofs.YtgnclfejnndicaaGreatDoor
open Go
set_option maxRecDepth 20000
theorem best_step {s : CS} {q x : Rat} {L : Nat} (i : CV s q x) (hr : 0 < s.r) (hrL : s.r ≤ L) (hrL' : s.r' ≤ L) (hbig : (L : Int) < (s.next x.floor).r) {t : Int} (ht : t = (((L : Int) - s.r' : Int) / (s.r : Rat) : Rat).floor) : 0 ≤ t ∧ t ≤ L ∧ (s.next t).r ≤ L ∧ 0 < (s.next t).r ∧ ∀ v : Rat, ((v = (s.p : Rat) / s.r ∧ bett q ((s.p : Rat) / s.r) (((s.next t).p : Rat) / (s.next t).r)) ∨ (v = ((s.next t).p : Rat) / (s.next t).r ∧ bett q (((s.next t).p : Rat) / (s.next t).r) ((s.p : Rat) / s.r))) → IsBest q L v := by
  have hrR : (0 : Rat) < (s.r : Rat) := Rat.intCast_pos.2 hr
  have hnr : ∀ u : Int, (s.next u).r = s.r' + u * s.r := fun u => rfl
  have f1 := Rat.floor_le (((L : Int) - s.r' : Int) / (s.r : Rat) : Rat)
  have f2 := (ceil_facts (((L : Int) - s.r' : Int) / (s.r : Rat) : Rat)).2.2.2
  rw [← ht] at f1 f2
  have hA : t * s.r ≤ (L : Int) - s.r' := by
    have h1 : ¬ ((((L : Int) - s.r' : Int) : Rat) / s.r < (t : Rat)) := Rat.not_lt.2 f1
    rw [Rat.div_lt_iff hrR, ← Rat.intCast_mul, Rat.intCast_lt_intCast] at h1
    omega
  have hB : (L : Int) - s.r' < (t + 1) * s.r := by
    rw [Rat.div_lt_iff hrR] at f2
    have e1 : ((t : Rat) + 1) = ((t + 1 : Int) : Rat) := by rw [Rat.intCast_add]; rfl
    rw [e1, ← Rat.intCast_mul, Rat.intCast_lt_intCast] at f2
    exact f2
  have ht0 : 0 ≤ t := by
    apply Classical.byContradiction
    intro hn
    have : (t + 1) * s.r ≤ 0 * s.r := Int.mul_le_mul_of_nonneg_right (by omega) (by omega)
    omega
  have hr0 := i.r0
  have hm0 : 0 ≤ t * s.r := Int.mul_nonneg ht0 (by omega)
  have hm1 : t * 1 ≤ t * s.r := Int.mul_le_mul_of_nonneg_left (by omega) ht0
  have hB' : (t + 1) * s.r = t * s.r + s.r := by rw [Int.add_mul, Int.one_mul]
  rw [hnr] at hbig
  have htf : t < x.floor := by
    apply Classical.byContradiction
    intro hn
    have : x.floor * s.r ≤ t * s.r := Int.mul_le_mul_of_nonneg_right (by omega) (by omega)
    omega
  have htx : (t : Rat) < x := Std.lt_of_lt_of_le (Rat.intCast_lt_intCast.2 htf) (Rat.floor_le x)
  have hr2 : 0 < s.r' + t * s.r := by omega
  refine ⟨ht0, by omega, by rw [hnr]; omega, hr2, ?_⟩
  obtain ⟨k1, k2, k3, k4⟩ := CV.two i hr ht0 htx hr2
  intro v hv
  exact best_of_two k1 (by omega) k4 (by omega) (by omega) hv
section
variable {h g : Heap} {K : Value → Heap → Prop} {m : Nat} {x y : List UInt8} {q : Rat}
theorem best_loop {L : Nat} (gl : Gl h) (hy : y = txtI L) (hL : 1 ≤ L) (zL : ZB m (L : Int)) (sq : Sz m q) (hm1 : 1 ≤ m) (hm : m ≤ 200) (hK : ∀ v h', h.le h' → IsBest q L v → K (.tuple #[qv v, I 0]) h') : FCall Tryz.prog f_EQuotients #[qv q] h (fun r4 hp6 => ∃ (t32A : Option Addr) (t32n : Nat) (t32c : Nat), r4 = .slice t32A t32n t32c ∧ ∃ (Invv : List Value → Heap → Prop) (muv : List Value → Heap → Nat), Invv [I (0 : Int), .string ({ data := #[48] } : ByteArray), .string ({ data := #[49] } : ByteArray), .string ({ data := #[49] } : ByteArray), .string ({ data := #[48] } : ByteArray)] hp6 ∧
  ∀ (t34 : Int) (before0 : ByteArray) (before1 : ByteArray) (current0 : ByteArray) (current1 : ByteArray), ∀ hp7, Invv [I t34, .string before0, .string before1, .string current0, .string current1] hp7 → Br (decide (t34 < ((t32n : Nat) : Int))) (∃ a, t32A = some a ∧ 0 ≤ t34 ∧ t34 < ((t32n : Nat) : Int) ∧ ∃ (t37 : ByteArray), Heap.cell? hp7 (Addr.add a ((t34).toNat * 1)) = some (.string t37) ∧ FCall Tryz.prog f_EAfter #[.agg #[.string current0, .string current1], .agg #[.string before0, .string before1], .string t37] hp7 (fun r5 hp8 => ∃ (t410 : ByteArray) (t411 : ByteArray), r5 = .agg #[.string t410, .string t411] ∧ FCall Tryz.prog f_TCompare #[.string t411, .string (bs y)] hp8 (fun r6 hp9 => ∃ (t45 : Int), r6 = I t45 ∧ Br (decide (t45 > (0 : Int))) (FCall Tryz.prog f_TSub #[.string (bs y), .string before1] hp9 (fun r7 hp10 => ∃ (t51 : ByteArray), r7 = .string t51 ∧ Heap.le hp9 hp10 ∧ FCall Tryz.prog f_TDiv #[.string t51, .string current1] hp10 (fun r8 hp11 => ∃ (t54a : ByteArray) (t54b : Bool), r8 = .tuple #[.string t54a, .bool t54b] ∧ Heap.le hp10 hp11 ∧ FCall Tryz.prog f_TFloor #[.string t54a] hp11 (fun r9 hp12 => ∃ (t62 : ByteArray), r9 = .string t62 ∧ Heap.le hp11 hp12 ∧ FCall Tryz.prog f_EAfter #[.agg #[.string current0, .string current1], .agg #[.string before0, .string before1], .string t62] hp12 (fun r10 hp13 => ∃ (t630 : ByteArray) (t631 : ByteArray), r10 = .agg #[.string t630, .string t631] ∧ Heap.le hp12 hp13 ∧ FCall Tryz.prog f_ENearer #[qv q, .agg #[.string current0, .string current1], .agg #[.string t630, .string t631]] hp13 (fun r11 hp14 => ∃ (t64 : ByteArray), r11 = .string t64 ∧ Heap.le hp13 hp14 ∧ K (.tuple #[.string t64, I (0 : Int)]) hp14))))))
  (Invv [I (wi64 (t34 + (1 : Int))), .string current0, .string current1, .string t410, .string t411] hp9 ∧ muv [I (wi64 (t34 + (1 : Int))), .string current0, .string current1, .string t410, .string t411] hp9 < muv [I t34, .string before0, .string before1, .string current0, .string current1] hp7))))
  (K (.tuple #[qv q, I (0 : Int)]) hp7)) := by
  refine equotients_spec gl sq hm1 (by omega) ?_
  intro QA Qn Qc h1 l1 hQn hQc hQb sQ
  refine ⟨_, _, _, rfl, ?_⟩
  subst hQn
  refine ⟨fun s hp => hp = h1 ∧ ∃ k : Nat, s = [I k, sv (css ((cfl q).take k)).p', sv (css ((cfl q).take k)).r', sv (css ((cfl q).take k)).p, sv (css ((cfl q).take k)).r] ∧ k ≤ (cfl q).length ∧ (css ((cfl q).take k)).r ≤ L ∧ (css ((cfl q).take k)).r' ≤ L, fun s _ => (cfl q).length - (iAt s 0).toNat, ⟨rfl, 0, ?_, by omega, ?_⟩, ?_⟩
  · simp only [List.take_zero, css, List.foldl_nil, cs0]
    rw [show (sv 0) = Value.string ({ data := #[48] } : ByteArray) by show Value.string (bs (txtI 0)) = _; rw [txtI_zero]; rfl, show (sv 1) = Value.string ({ data := #[49] } : ByteArray) by show Value.string (bs (txtI 1)) = _; rw [txtI_one]; rfl]
    rfl
  · simp only [List.take_zero, css, List.foldl_nil, cs0]; omega
  rintro t34 b0 b1 c0 c1 hp2 ⟨rfl, k, hs, hk, hrL, hrL'⟩
  simp only [List.cons.injEq, Value.string.injEq, Value.int.injEq, and_true, true_and] at hs
  obtain ⟨rfl, rfl, rfl, rfl, rfl⟩ := hs
  have gl2 := gl.mono l1
  refine Br.dec (fun hlt => ?_) (fun hge => ?_)
  · have hkl : k < (cfl q).length := by omega
    obtain ⟨a, ha, hcell⟩ := SlV.at sQ (i := k) (by simpa using hkl)
    obtain ⟨w, hd, cv, hx1, _⟩ := cv_state q k hkl
    obtain ⟨e1, e2, e3⟩ := cv_next q hkl hd
    have hcell' : hp2.cell? (a.add ((k : Int).toNat * 1)) = some (sv w.floor) := by
      rw [Int.toNat_natCast, Nat.mul_one, hcell]; simp [e1]
    refine ⟨a, ha, by omega, by omega, bs (txtI w.floor), hcell', ?_⟩
    obtain ⟨z1, z2⟩ := cv_bounds q sq (k := k) hk
    obtain ⟨y1, y2⟩ := cv_bounds q sq (k := k + 1) (by omega)
    have zpr : ZB (m + 1) (css ((cfl q).take k)).p' ∧ ZB (m + 1) (css ((cfl q).take k)).r' := by
      by_cases h0 : k = 0
      · subst h0
        simp only [List.take_zero, css, List.foldl_nil, cs0]
        exact ⟨ZB.zero, ZB.one (by omega)⟩
      · obtain ⟨j, rfl⟩ : ∃ j, k = j + 1 := ⟨k - 1, by omega⟩
        obtain ⟨w1, w2⟩ := cv_bounds q sq (k := j) (by omega)
        rw [List.take_succ_eq_append_getElem (by omega), css_snoc]
        exact ⟨w1, w2⟩
    have hfa : ZB (m + 1) w.floor := by
      by_cases h0 : k = 0
      · subst h0
        have hh : (cfl q)[0] = q.floor := by obtain ⟨t, ht⟩ := cfl_head q; simp [ht]
        rw [← e1, hh]; exact (floor_zb sq).mono (by omega)
      · have hx := (hx1 (by omega))
        have hxb : w.num ≤ q.den := by
          have hr := cv.r0
          have h5 : 1 * w.num ≤ (css ((cfl q).take k)).r * w.num := Int.mul_le_mul_of_nonneg_right (by omega) (Int.le_of_lt (num_pos' (by grind)))
          have h6 : 0 ≤ (css ((cfl q).take k)).r' * w.den := Int.mul_nonneg hr.2.1 (by omega)
          rw [cv.dq]; omega
        have hx0 := num_pos' (show 0 < w by grind)
        have hdn := sq.den
        rw [Rat.floor_def]
        refine ZB.mono (ZB.le (x := (q.den : Int)) hdn ?_) (by omega)
        refine Nat.le_trans (Int.natAbs_ediv_le_natAbs _ _) ?_
        omega
    refine eafter_spec gl2 hfa z1 z2 zpr.1 zpr.2 (by omega) (by omega) ⟨_, _, rfl, ?_⟩
    rw [e2] at y1 y2
    have tL : Tx (m + 1) y := by rw [hy]; exact Tx.bigI (zL.mono (by omega)) (by omega) (by omega)
    have hyv : rv y = ((L : Int) : Rat) := by rw [hy, rv_txtI]
    refine tcompare_spec gl2 (Tx.bigI y2 (by omega) (by omega)) tL (by omega) ⟨_, rfl, ?_⟩
    rw [rv_txtI, hyv]
    refine Br.dec (fun hbig => ?_) (fun hsmall => ?_)
    · have hbig' : (L : Int) < ((css ((cfl q).take k)).next w.floor).r := Rat.intCast_lt_intCast.1 (cmpQ_gt.1 hbig)
      have hk0 : k ≠ 0 := by
        intro h0
        subst h0
        simp only [List.take_zero, css, List.foldl_nil, cs0, CS.next] at hbig'
        omega
      have hr := (hx1 (by omega)).2
      obtain ⟨t0, t1, t2, t3, t4⟩ := best_step cv hr hrL hrL' hbig' rfl
      obtain ⟨c1', c2'⟩ := CS.parts cv.det hr
      generalize hs : css ((cfl q).take k) = s at *
      refine tsub_spec gl2 tL (Tx.bigI zpr.2 (by omega) (by omega)) (by omega) ⟨_, rfl, Heap.le_refl _, ?_⟩
      rw [rv_txtI, hyv, ← Rat.intCast_sub]
      have sS : Sz (m + 2) (((L : Int) - s.r' : Int) : Rat) := Sz.int ((zL.mono (show m ≤ m + 1 by omega)).sub zpr.2) (by omega)
      refine tdiv_spec gl2 (Tx.big sS (by omega)) (Tx.bigI (z2.mono (by omega)) (by omega) (by omega)) (by omega) (by omega) ?_ ?_
      · intro _
        rw [rv_txt, rv_txtI]
        have sD := sS.div (Sz.int (z2.mono (show m + 1 ≤ m + 2 by omega)) (by omega)) (by omega)
        refine ⟨_, _, rfl, Heap.le_refl _, tfloor_spec gl2 (Tx.big sD (by omega)) (by omega) ⟨_, rfl, Heap.le_refl _, ?_⟩⟩
        rw [rv_txt]
        generalize ((((L : Int) - s.r' : Int) : Rat) / (s.r : Rat)).floor = t at *
        have zt : ZB (m + 1) t := (zL.mono (by omega)).le (by omega)
        refine eafter_spec gl2 zt z1 z2 zpr.1 zpr.2 (by omega) (by omega) ⟨_, _, rfl, Heap.le_refl _, ?_⟩
        obtain ⟨e1', e2'⟩ := CS.parts (CS.det_next t cv.det) t3
        have zp : ZB (2 * m + 3) (s.next t).p := by
          have := (zpr.1.mono (show m + 1 ≤ m + 1 + (m + 1) by omega)).add (zt.mul z1)
          exact this.mono (by omega)
        have zr : ZB (2 * m + 3) (s.next t).r := (zL.mono (by omega)).le (by omega)
        have sc : Sz (2 * m + 3) ((s.p : Rat) / s.r) := ⟨by rw [c1']; exact z1.mono (by omega), by rw [c2']; exact z2.mono (by omega)⟩
        have se : Sz (2 * m + 3) (((s.next t).p : Rat) / (s.next t).r) := ⟨by rw [e1']; exact zp, by rw [e2']; exact zr⟩
        refine enearer_spec gl2 c1' c2' e1' e2' (sq.mono (by omega)) sc se (by omega) (by omega) ?_
        intro v h' l' hv
        exact ⟨_, rfl, l', hK _ _ (Heap.le_trans l1 l') (t4 v hv)⟩
      · intro e0
        rw [rv_txtI] at e0
        have := Rat.intCast_inj.1 (e0.trans Rat.intCast_zero.symm)
        omega
    · have hsm : ¬ (L : Int) < ((css ((cfl q).take k)).next w.floor).r := fun h5 => hsmall (cmpQ_gt.2 (Rat.intCast_lt_intCast.2 h5))
      rw [wi64_id (by omega) (by omega)]
      refine ⟨⟨rfl, k + 1, by rw [e2]; rfl, by omega, by rw [e2]; omega, by rw [e2]; exact hrL⟩, by simp only [iAt, List.getElem?_cons_zero]; omega⟩
  · obtain rfl : k = (cfl q).length := by omega
    refine hK _ _ l1 (IsBest.own ?_)
    have hpos := cfl_len q
    obtain ⟨j, hj⟩ : ∃ j, (cfl q).length = j + 1 := ⟨(cfl q).length - 1, by omega⟩
    have h3 := (cv_parts q (k := j) (by omega)).2.2
    rw [cvs_last q hj.symm] at h3
    rw [hj] at hrL
    omega
theorem ebest_spec (gl : Gl h) (hx : x.length ≤ 570) (hy : y.length ≤ 570) (sx : Sz m (rv x)) (sy : Sz m (rv y)) (hm1 : 1 ≤ m) (hm : m ≤ 200) (hK : ∀ r e h', h.le h' → (¬ (IsNum x ∧ IsNum y) → r = [] ∧ e = 1) → (IsNum x → IsNum y → ¬ ((rv y).den = 1 ∧ 1 ≤ rv y) → r = [] ∧ e = 3) → (IsNum x → IsNum y → ∀ L : Nat, 1 ≤ L → rv y = (L : Rat) → e = 0 ∧ ∃ v, r = txtQ v ∧ IsBest (rv x) L v) → K (.tuple #[.string (bs r), I e]) h') : FCall Tryz.prog f_EBest #[.string (bs x), .string (bs y)] h K := by
  refine EBest_ok _ _ ?_
  unfold EBest
  refine ⟨fun L hp => hp = h ∧ ∃ t : Bool, L = [.bool t] ∧ (t = true ↔ ¬ (IsNum x ∧ IsNum y)), valid_spec gl hx (fun e => ?_) (fun e => ?_), ?_⟩
  · refine ⟨_, rfl, Br.not (valid_spec gl hy (fun e2 => ?_) (fun e2 => ?_))⟩
    · exact ⟨_, rfl, rfl, false, rfl, by simp [e, e2]⟩
    · exact ⟨_, rfl, rfl, true, rfl, by simp [e2]⟩
  · exact ⟨_, rfl, Br.not ⟨rfl, true, rfl, by simp [e]⟩⟩
  rintro t13 hp2 ⟨rfl, t, hL, ht⟩
  obtain rfl : t13 = t := by simpa using hL
  refine Br.of (fun e => ?_) (fun e => ?_)
  · have := ht.1 e
    exact hK [] 1 _ (Heap.le_refl _) (fun _ => ⟨rfl, rfl⟩) (fun a b => absurd ⟨a, b⟩ this) (fun a b => absurd ⟨a, b⟩ this)
  have hxy : IsNum x ∧ IsNum y := by
    apply Classical.byContradiction
    intro hn
    rw [ht.2 hn] at e; cases e
  have e49 : ({ data := #[49] } : ByteArray) = bs (txtI 1) := by rw [txtI_one]; rfl
  have ey := txt_rv hxy.2
  have ex := txt_rv hxy.1
  refine ⟨fun L hp => hp = hp2 ∧ ∃ t : Bool, L = [.bool t] ∧ (t = true ↔ ¬ ((rv y).den = 1 ∧ 1 ≤ rv y)), isInteger_spec ey.symm ⟨_, rfl, Br.not (Br.dec (fun h1 => ?_) (fun h1 => ?_))⟩, ?_⟩
  · rw [e49]
    refine tcompare_spec gl ⟨hy, sy⟩ (Tx.bigI (ZB.one hm1) hm1 (by omega)) (by omega) ⟨_, rfl, rfl, _, rfl, ?_⟩
    rw [rv_txtI, decide_eq_true_eq, cmpQ_lt]
    have : ((1 : Int) : Rat) = 1 := rfl
    rw [this]
    constructor
    · intro h2 h3; exact Rat.not_lt.2 h3.2 h2
    · intro h2; rw [← Rat.not_le]; exact fun h3 => h2 ⟨h1, h3⟩
  · exact ⟨rfl, true, rfl, by simp [h1]⟩
  rintro t28 hp5 ⟨rfl, t', hL', ht'⟩
  obtain rfl : t28 = t' := by simpa using hL'
  refine Br.of (fun e => ?_) (fun e => ?_)
  · have h1 := ht'.1 e
    refine hK [] 3 _ (Heap.le_refl _) (fun a => absurd hxy a) (fun _ _ _ => ⟨rfl, rfl⟩) (fun _ _ L hL1 hL2 => ?_)
    exfalso; apply h1
    rw [hL2]
    refine ⟨by simp, ?_⟩
    have := (Rat.natCast_le_natCast (a := 1) (b := L)).2 hL1
    simpa using this
  · have h1 : (rv y).den = 1 ∧ 1 ≤ rv y := by
      apply Classical.byContradiction
      intro hn
      rw [ht'.2 hn] at e; cases e
    have hyn : rv y = ((rv y).num : Rat) := by
      apply Rat.ext
      · simp
      · simpa using h1.1
    have hn1 : 1 ≤ (rv y).num := by
      have h2 := h1.2
      rw [hyn] at h2
      have : ((1 : Int) : Rat) ≤ ((rv y).num : Rat) := h2
      exact Rat.intCast_le_intCast.1 this
    obtain ⟨L, hL2⟩ : ∃ L : Nat, (rv y).num = L := ⟨(rv y).num.toNat, by omega⟩
    have hyt : y = txtI (L : Int) := by rw [← ey, txtQ_int h1.1, hL2]
    have zL : ZB m (L : Int) := by rw [← hL2]; exact sy.num
    have key := best_loop (K := K) gl hyt (by omega) zL sx hm1 hm (fun v h' l' hv => hK (txtQ v) 0 h' l' (fun a => absurd hxy a) (fun _ _ a => absurd h1 a) (fun _ _ L' hL1' hL2' => ⟨rfl, v, rfl, by
      have : L' = L := by
        rw [hyn, hL2] at hL2'
        rw [Rat.intCast_natCast] at hL2'
        exact (Rat.natCast_inj.1 hL2').symm
      rw [this]; exact hv⟩))
    rw [show qv (rv x) = Value.string (bs x) by show Value.string (bs (txtQ (rv x))) = _; rw [ex]] at key
    exact key
end
end Go.Proofs.YtgnclfejnndicaaGreatDoor
/-
  The law NearestConverges.
-/
namespace Go.Proofs.YtgnclfejnndicaaGreatDoor
open Go
set_option maxRecDepth 20000
section
variable {h g : Heap} {K : Value → Heap → Prop} {m : Nat} {p q : Rat} {a b : QV}
theorem Sz.ab {q : Rat} (h : Sz m q) : Sz m (ab q) := by
  unfold Go.Proofs.YtgnclfejnndicaaGreatDoor.ab; split
  · exact h.neg
  · exact h
end
end Go.Proofs.YtgnclfejnndicaaGreatDoor
/-
  Best of the reference; the laws NearestBest and NearestOwn.
-/
namespace Go.Proofs.YtgnclfejnndicaaGreatDoor
open Go
set_option maxRecDepth 20000
def upd (q x b : Rat) : Rat := if ab (x - q) < ab (b - q) then x else b
theorem bett_refl (q a : Rat) : bett q a a := .inr ⟨rfl, .inr ⟨rfl, Rat.le_refl⟩⟩
theorem unit_two {q y : Rat} {d : Nat} (hd : 0 < d) (hy : y.den = d) : let n := (q * d).floor; (y ≤ Rat.divInt n d ∨ Rat.divInt (n + 1) d ≤ y) ∧ Rat.divInt n d ≤ q ∧ q < Rat.divInt (n + 1) d ∧ (Rat.divInt n d).den ≤ d ∧ (Rat.divInt (n + 1) d).den ≤ d := by
  intro n
  have hdr : (0 : Rat) < (d : Rat) := Rat.natCast_pos.2 hd
  have f1 := Rat.floor_le (q * (d : Rat))
  have f2 := (ceil_facts (q * (d : Rat))).2.2.2
  have hcast : ∀ z : Int, Rat.divInt z d = (z : Rat) / (d : Rat) := fun z => by rw [Rat.divInt_eq_div, Rat.intCast_natCast]
  have hyn : y = Rat.divInt y.num d := by rw [← hy]; exact (Rat.num_divInt_den y).symm
  have mono : ∀ {a b : Int}, a ≤ b → Rat.divInt a d ≤ Rat.divInt b d := by
    intro a b hab
    rw [hcast, hcast, ← Rat.not_lt, Rat.div_lt_iff hdr, Rat.not_lt, Rat.div_mul_cancel (by grind)]
    exact Rat.intCast_le_intCast.2 hab
  refine ⟨?_, ?_, ?_, ?_, ?_⟩
  · by_cases h1 : y.num ≤ n
    · left; rw [hyn]; exact mono h1
    · right; rw [hyn]; exact mono (by omega)
  · rw [hcast, ← Rat.not_lt, Rat.lt_div_iff hdr, Rat.not_lt]; exact f1
  · rw [hcast, Rat.lt_div_iff hdr, Rat.intCast_add]; exact f2
  · have := (divInt_le (a := n) (b := d) (by omega)).2
    rwa [Int.natAbs_natCast] at this
  · have := (divInt_le (a := n + 1) (b := d) (by omega)).2
    rwa [Int.natAbs_natCast] at this
theorem upd_le (q x b : Rat) : ab (upd q x b - q) ≤ ab (b - q) ∧ ab (upd q x b - q) ≤ ab (x - q) := by
  unfold upd; split
  · rename_i h; exact ⟨Rat.le_of_lt h, Rat.le_refl⟩
  · rename_i h; exact ⟨Rat.le_refl, Rat.not_lt.1 h⟩
theorem bett_upd {q x b y : Rat} (h : bett q b y) : bett q (upd q x b) y ∨ upd q x b = b := by
  unfold upd; split
  · rename_i h1
    left; left
    unfold bett at h
    rcases h with h | ⟨h, _⟩ <;> grind
  · right; rfl
theorem best_den {q b : Rat} {d : Nat} (hd : 0 < d) (hb : b.den < d ∨ b = Rat.divInt (q * d).floor d) (hbest : ∀ y : Rat, y.den < d → bett q b y) : IsBest q d (upd q (Rat.divInt ((q * d).floor + 1) d) (upd q (Rat.divInt (q * d).floor d) b)) := by
  generalize hb2 : upd q (Rat.divInt ((q * d).floor + 1) d) (upd q (Rat.divInt (q * d).floor d) b) = b2
  generalize hn : (q * (d : Rat)).floor = n at *
  have hx : ∀ y : Rat, y.den = d → (y ≤ Rat.divInt n d ∨ Rat.divInt (n + 1) d ≤ y) ∧ Rat.divInt n d ≤ q ∧ q < Rat.divInt (n + 1) d := by
    intro y hy
    obtain ⟨u1, u2, u3, _⟩ := unit_two (q := q) hd hy
    rw [hn] at u1 u2 u3
    exact ⟨u1, u2, u3⟩
  have den0 : (Rat.divInt n d).den ≤ d := by
    have := (divInt_le (a := n) (b := d) (by omega)).2
    rwa [Int.natAbs_natCast] at this
  have den1 : (Rat.divInt (n + 1) d).den ≤ d := by
    have := (divInt_le (a := n + 1) (b := d) (by omega)).2
    rwa [Int.natAbs_natCast] at this
  have bden : b.den ≤ d := by rcases hb with h | h; omega; rw [h]; exact den0
  generalize hx0 : Rat.divInt n d = x0 at *
  generalize hx1 : Rat.divInt (n + 1) d = x1 at *
  have hcases : b2 = x1 ∧ ab (x1 - q) < ab (upd q x0 b - q) ∨ b2 = upd q x0 b ∧ ¬ ab (x1 - q) < ab (upd q x0 b - q) := by
    subst hb2
    generalize upd q x0 b = c
    unfold upd; split
    · rename_i h; exact .inl ⟨rfl, h⟩
    · rename_i h; exact .inr ⟨rfl, h⟩
  have hcases0 : upd q x0 b = x0 ∧ ab (x0 - q) < ab (b - q) ∨ upd q x0 b = b ∧ ¬ ab (x0 - q) < ab (b - q) := by
    unfold upd; split
    · rename_i h; exact .inl ⟨rfl, h⟩
    · rename_i h; exact .inr ⟨rfl, h⟩
  refine ⟨?_, fun y hy => ?_⟩
  · rcases hcases with ⟨e, _⟩ | ⟨e, _⟩
    · rw [e]; exact den1
    · rw [e]
      rcases hcases0 with ⟨e0, _⟩ | ⟨e0, _⟩ <;> rw [e0]
      · exact den0
      · exact bden
  · by_cases hlt : y.den < d
    · have h0 := hbest y hlt
      rcases hcases with ⟨e, h1⟩ | ⟨e, _⟩
      · rw [e]
        left
        have := (upd_le q x0 b).1
        unfold bett at h0
        rcases h0 with h | ⟨h, _⟩ <;> grind
      · rw [e]
        rcases bett_upd (x := x0) h0 with h | h
        · exact h
        · rw [h]; exact h0
    · have hyd : y.den = d := by omega
      obtain ⟨k1, k2, k3⟩ := hx y hyd
      have a0 : ab (x0 - q) = q - x0 := by
        unfold ab
        by_cases h : x0 - q < 0
        · rw [if_pos h]; grind
        · rw [if_neg h]; grind
      have a1 : ab (x1 - q) = x1 - q := by unfold ab; rw [if_neg (by grind)]
      rcases k1 with k1 | k1
      · have ay : ab (y - q) = q - y := by
          unfold ab
          by_cases h : y - q < 0
          · rw [if_pos h]; grind
          · rw [if_neg h]; grind
        rcases hcases with ⟨e, h1⟩ | ⟨e, h1⟩
        · rw [e]; left
          have := (upd_le q x0 b).2
          grind
        · rw [e]
          rcases hcases0 with ⟨e0, h0⟩ | ⟨e0, h0⟩ <;> rw [e0]
          · by_cases hyx : y = x0
            · rw [hyx]; exact bett_refl _ _
            · left; rw [a0, ay]; grind
          · by_cases hs : ab (b - q) < ab (y - q)
            · exact .inl hs
            · rcases hb with hb | hb
              · right; exact ⟨by grind, .inl (by omega)⟩
              · have : y = x0 := by rw [hb] at hs; grind
                rw [hb, this]; exact bett_refl _ _
      · have ay : ab (y - q) = y - q := by unfold ab; rw [if_neg (by grind)]
        rcases hcases with ⟨e, h1⟩ | ⟨e, h1⟩
        · rw [e]
          by_cases hyx : y = x1
          · rw [hyx]; exact bett_refl _ _
          · left; rw [a1, ay]; grind
        · rw [e]
          rcases hcases0 with ⟨e0, h0⟩ | ⟨e0, h0⟩ <;> rw [e0] at h1 ⊢
          · by_cases hs : ab (x0 - q) < ab (y - q)
            · exact .inl hs
            · right
              refine ⟨by grind, ?_⟩
              by_cases hdd : x0.den < y.den
              · exact .inl hdd
              · exact .inr ⟨by omega, by grind⟩
          · by_cases hs : ab (b - q) < ab (y - q)
            · exact .inl hs
            · right
              refine ⟨by grind, ?_⟩
              rcases hb with hb | hb
              · exact .inl (by omega)
              · rw [hb]
                by_cases hdd : x0.den < y.den
                · exact .inl hdd
                · exact .inr ⟨by omega, by grind⟩
section
variable {h g : Heap} {K : Value → Heap → Prop} {m : Nat} {p q : Rat} {a b : QV}
theorem fdistance_spec (ia : NQ h a p) (ib : NQ h b q) (hp : Sz m p) (hq : Sz m q) (hm : m ≤ 400000000) (hK : ∀ w h', h.le h' → NQ h' w (ab (p - q)) → K w.v h') : FCall Tryz.prog f_FDistance #[a.v, b.v] h K := by
  refine FDistance_ok _ _ _ _ _ _ _ _ _ _ _ _ _ _ _ _ ?_
  unfold FDistance
  refine rsub_spec ia ib hp hq hm ?_
  intro w1 h1 l1 i1
  unfold ab at hK
  refine ⟨_, _, _, _, _, _, _, _, rfl, rsign_spec i1 ⟨_, rfl, Br.dec (fun e => ?_) (fun e => ?_)⟩⟩
  · rw [if_pos (sgnQ_lt.1 e)] at hK
    refine rneg_spec i1 ?_
    intro w2 i2
    exact ⟨_, _, _, _, _, _, _, _, rfl, hK _ _ l1 i2⟩
  · rw [if_neg (fun e2 => e (sgnQ_lt.2 e2))] at hK
    exact hK _ _ l1 i1
def fstep (q : Rat) (d : Nat) (b : Rat) (k : Nat) : Rat := (List.range k).foldl (fun b (j : Nat) => upd q (Rat.divInt ((q * d).floor + (j : Int)) d) b) b
theorem fstep_succ (q : Rat) (d : Nat) (b : Rat) (k : Nat) : fstep q d b (k + 1) = upd q (Rat.divInt ((q * d).floor + (k : Int)) d) (fstep q d b k) := by
  unfold fstep; rw [List.range_succ, List.foldl_append]; rfl
theorem fbest_spec {L : Nat} (iq : NQ h a q) (sq : Sz m q) (hm1 : 1 ≤ m) (hm : m ≤ 1000000) (hL : 1 ≤ L ∧ L ≤ 60) (hK : ∀ w v h', h.le h' → NQ h' w v → Sz (m + 20) v → IsBest q L v → K w.v h') : FCall Tryz.prog f_FBest #[a.v, I L] h K := by
  refine FBest_ok _ _ _ _ _ _ _ _ _ ?_
  unfold FBest
  refine floor_spec iq sq (by omega) hm1 ?_
  intro s0 A0 n0 c0 h1 l1 i0
  have q0 := NQ.whole i0 (B := none)
  refine ⟨_, _, _, _, rfl, fun S hp => ∃ (d : Nat) (w : QV) (v : Rat), S = [I d, .bool w.s, .slice w.A w.n w.c, .bool w.s2, .slice w.A2 w.n2 w.c2] ∧ h1.le hp ∧ NQ hp w v ∧ 1 ≤ d ∧ d ≤ L + 1 ∧ Sz (m + 20) v ∧ (v.den < d ∨ v = Rat.divInt (q * d).floor d) ∧ (∀ y : Rat, y.den < d → bett q v y) ∧ (1 < d → IsBest q (d - 1) v), fun S _ => L + 1 - (iAt S 0).toNat, ⟨1, ⟨s0, A0, n0, c0, false, none, 0, 0⟩, _, rfl, Heap.le_refl _, q0, by omega, by omega, (floor_sz sq hm1).mono (by omega), .inr ?_, fun y hy => absurd hy (by have := y.den_nz; omega), fun e => by omega⟩, ?_⟩
  · have e1 : q * ((1 : Nat) : Rat) = q := by simp
    rw [e1, Rat.divInt_eq_div]
    have e2 : (((1 : Nat) : Int) : Rat) = 1 := by rfl
    rw [e2, Rat.div_def]
    have : (1 : Rat)⁻¹ = 1 := by decide +kernel
    rw [this, Rat.mul_one]
  rintro d1 b0 bA bn bc b2 bA2 bn2 bc2 hp1 ⟨d, w, v, hS, lp, iv, hd1, hdL, sv, hb, hbest, hIs⟩
  simp only [List.cons.injEq, Value.int.injEq, Value.bool.injEq, Value.slice.injEq, and_true, true_and] at hS
  obtain ⟨rfl, rfl, ⟨rfl, rfl, rfl⟩, rfl, rfl, rfl, rfl⟩ := hS
  have lh := Heap.le_trans l1 lp
  refine Br.dec (fun hle => ?_) (fun hgt => ?_)
  · refine r_spec (by omega) ?_
    intro w2 h2 l2 i2
    have zd : ZB 7 (d : Int) := by unfold ZB; omega
    have sd : Sz 7 ((d : Int) : Rat) := Sz.int zd (by omega)
    refine ⟨_, _, _, _, _, _, _, _, rfl, l2, rmul_spec (m := m + 7) (iq.mono (Heap.le_trans lh l2)) i2 (sq.mono (by omega)) (sd.mono (by omega)) (by omega) ?_⟩
    intro w3 h3 l3 i3
    have sm : Sz (m + 7) (q * ((d : Int) : Rat)) := sq.mul sd
    refine ⟨_, _, _, _, _, _, _, _, rfl, l3, floor_spec i3 sm (by omega) (by omega) ?_⟩
    intro s4 A4 n4 c4 h4 l4 i4
    have zf : ZB (m + 7) (q * ((d : Int) : Rat)).floor := floor_zb sm
    rw [Rat.intCast_natCast] at i4 zf
    have l14 := Heap.le_trans l2 (Heap.le_trans l3 l4)
    have stepSz : ∀ k : Nat, k ≤ 2 → Sz (m + 20) (Rat.divInt ((q * d).floor + (k : Int)) d) := by
      intro k hk
      have zk : ZB (m + 7) (k : Int) := ZB.mono (show ZB 7 (k : Int) by unfold ZB; omega) (by omega)
      exact (Sz.divInt (by omega) (zf.add zk) (zd.mono (by omega))).mono (by omega)
    refine ⟨_, _, _, _, rfl, l4, fun S hp => ∃ (k : Nat) (w : QV), S = [I k, .bool w.s, .slice w.A w.n w.c, .bool w.s2, .slice w.A2 w.n2 w.c2] ∧ h4.le hp ∧ NQ hp w (fstep q d v k) ∧ k ≤ 2 ∧ Sz (m + 20) (fstep q d v k), fun S _ => 2 - (iAt S 0).toNat, ⟨0, w, rfl, Heap.le_refl _, iv.mono l14, by omega, sv⟩, ?_⟩
    rintro k1 b0 bA bn bc b2 bA2 bn2 bc2 hp5 ⟨k, w', hS, lp5, ik, hk2, sk⟩
    simp only [List.cons.injEq, Value.int.injEq, Value.bool.injEq, Value.slice.injEq, and_true, true_and] at hS
    obtain ⟨rfl, rfl, ⟨rfl, rfl, rfl⟩, rfl, rfl, rfl, rfl⟩ := hS
    refine Br.dec (fun hlt => ?_) (fun hge => ?_)
    · refine fromInt_spec (by omega) ?_
      intro s6 A6 n6 c6 h6 l6 i6
      have zk : ZB (m + 7) (k : Int) := ZB.mono (show ZB 7 (k : Int) by unfold ZB; omega) (by omega)
      refine ⟨_, _, _, _, rfl, l6, add_spec (i4.mono (Heap.le_trans lp5 l6)) i6 zf zk (by omega) ?_⟩
      intro s7 A7 n7 c7 h7 l7 i7
      refine ⟨_, _, _, _, rfl, l7, fromInt_spec (by omega) ?_⟩
      intro s8 A8 n8 c8 h8 l8 i8
      refine ⟨_, _, _, _, rfl, l8, frac_spec (m := m + 8) (i7.mono l8) i8 (by omega) (zf.add zk) (zd.mono (by omega)) (by omega) ?_⟩
      intro w9 h9 l9 i9
      have lq : h.le h9 := Heap.le_trans lh (Heap.le_trans l14 (Heap.le_trans lp5 (Heap.le_trans l6 (Heap.le_trans l7 (Heap.le_trans l8 l9)))))
      have sq' : Sz (m + 20) q := sq.mono (by omega)
      have sx := stepSz k (by omega)
      refine ⟨_, _, _, _, _, _, _, _, rfl, l9, fdistance_spec i9 (iq.mono lq) sx sq' (by omega) ?_⟩
      intro w10 h10 l10 i10
      refine ⟨_, _, _, _, _, _, _, _, rfl, l10, fdistance_spec (ik.mono (Heap.le_trans l6 (Heap.le_trans l7 (Heap.le_trans l8 (Heap.le_trans l9 l10))))) (iq.mono (Heap.le_trans lq l10)) sk sq' (by omega) ?_⟩
      intro w11 h11 l11 i11
      have l511 := Heap.le_trans l6 (Heap.le_trans l7 (Heap.le_trans l8 (Heap.le_trans l9 (Heap.le_trans l10 l11))))
      refine ⟨_, _, _, _, _, _, _, _, rfl, l11, rcmp_spec (i10.mono l11) i11 (sx.sub sq').ab' (sk.sub sq').ab' (by omega) ⟨_, rfl, Heap.le_refl _, ?_⟩⟩
      rw [wi64_id (by omega) (by omega)]
      refine Br.dec (fun e => ?_) (fun e => ?_)
      · have e1 : ab (Rat.divInt ((q * d).floor + (k : Int)) d - q) < ab (fstep q d v k - q) := by have := sgnQ_lt.1 e; grind
        have e2 : fstep q d v (k + 1) = Rat.divInt ((q * d).floor + (k : Int)) d := by rw [fstep_succ]; unfold upd; rw [if_pos e1]
        exact ⟨⟨k + 1, w9, rfl, Heap.le_trans lp5 l511, by rw [e2]; exact i9.mono (Heap.le_trans l10 l11), by omega, by rw [e2]; exact sx⟩, by simp only [iAt, List.getElem?_cons_zero]; omega⟩
      · have e1 : ¬ ab (Rat.divInt ((q * d).floor + (k : Int)) d - q) < ab (fstep q d v k - q) := fun h5 => e (sgnQ_lt.2 (by grind))
        have e2 : fstep q d v (k + 1) = fstep q d v k := by rw [fstep_succ]; unfold upd; rw [if_neg e1]
        exact ⟨⟨k + 1, w', rfl, Heap.le_trans lp5 l511, by rw [e2]; exact ik.mono l511, by omega, by rw [e2]; exact sk⟩, by simp only [iAt, List.getElem?_cons_zero]; omega⟩
    · obtain rfl : k = 2 := by omega
      have hB := best_den (by omega) hb hbest
      have e2 : fstep q d v 2 = upd q (Rat.divInt ((q * d).floor + 1) d) (upd q (Rat.divInt (q * d).floor d) v) := by
        rw [fstep_succ, fstep_succ]
        simp [fstep]
      rw [← e2] at hB
      rw [wi64_id (by omega) (by omega)]
      exact ⟨⟨d + 1, w', _, rfl, Heap.le_trans lp (Heap.le_trans l14 lp5), ik, by omega, by omega, sk, .inl (by have := hB.den; omega), fun y hy => hB.best y (by omega), fun _ => hB⟩, by simp only [iAt, List.getElem?_cons_zero]; omega⟩
  · obtain rfl : d = L + 1 := by omega
    exact hK w v _ lh iv sv (hIs (by omega))
end
end Go.Proofs.YtgnclfejnndicaaGreatDoor
/-
  The laws NearestBest and NearestOwn.
-/
namespace Go.Proofs.YtgnclfejnndicaaGreatDoor
open Go
set_option maxRecDepth 20000
theorem cut_mod (v : Int) {n : Nat} (hn : 0 < n ∧ n ≤ 1000000) : ∃ r : Nat, r < n ∧ wi64 (1 + Int.tmod (wi64 (Int.tmod v n + n)) n) = ((r + 1 : Nat) : Int) := by
  have hb1 : -(n : Int) < Int.tmod v n ∧ Int.tmod v n < n := by
    have hm := Nat.mod_lt v.natAbs hn.1
    have tt := tmod_sgn v.natAbs n
    by_cases hv : v < 0
    · rw [show -((v.natAbs : Nat) : Int) = v by omega] at tt; have := tt.2.2.1; omega
    · rw [show ((v.natAbs : Nat) : Int) = v by omega] at tt; have := tt.1; omega
  generalize Int.tmod v n = w at *
  rw [wi64_id (n := w + n) (by omega) (by omega), Int.tmod_eq_emod_of_nonneg (by omega)]
  have h2 := Int.emod_nonneg (w + n) (show (n : Int) ≠ 0 by omega)
  have h3 := Int.emod_lt_of_pos (w + n) (show (0 : Int) < n by omega)
  obtain ⟨r, hr⟩ := Int.eq_ofNat_of_zero_le h2
  rw [hr] at h3 ⊢
  exact ⟨r, by omega, by rw [wi64_id (by omega) (by omega)]; omega⟩
theorem ab_lt {x c : Rat} (h : ab x < c) : -c < x ∧ x < c := by unfold ab at h; split at h <;> constructor <;> grind
theorem IsBest.sz {q v : Rat} {L m k : Nat} (hb : IsBest q L v) (hL : 1 ≤ L) (sq : Sz m q) (zL : L < 2 ^ k) : Sz (m + 2 + k) v := by
  have hf := hb.best (q.floor : Rat) (by simpa using hL)
  have f1 := Rat.floor_le q
  have f2 := (ceil_facts q).2.2.2
  have hd : ab ((q.floor : Rat) - q) < 1 := by unfold ab; split <;> grind
  have hv : ab (v - q) < 1 := by unfold bett at hf; grind
  obtain ⟨v1, v2⟩ := ab_lt hv
  have zf := floor_zb sq
  generalize q.floor = f at *
  have u1 : v < ((f + 2 : Int) : Rat) := by rw [Rat.intCast_add]; show v < (f : Rat) + 2; grind
  have u2 : ((f - 1 : Int) : Rat) < v := by rw [Rat.intCast_sub]; show (f : Rat) - 1 < v; grind
  have w1 := (Rat.lt_iff _ _).1 u1
  have w2 := (Rat.lt_iff _ _).1 u2
  simp only [Rat.den_intCast, Rat.num_intCast] at w1 w2
  have hden := hb.den
  unfold ZB at zf
  have hM : 1 ≤ 2 ^ m := Nat.one_le_two_pow
  have m1 : (f + 2) * (v.den : Int) ≤ ((2 ^ m * 4 : Nat) : Int) * v.den := Int.mul_le_mul_of_nonneg_right (by omega) (by omega)
  have m2 : -((2 ^ m * 4 : Nat) : Int) * v.den ≤ (f - 1) * (v.den : Int) := Int.mul_le_mul_of_nonneg_right (by omega) (by omega)
  have e2 : 2 ^ (m + 2 + k) = 2 ^ m * 4 * 2 ^ k := by rw [Nat.pow_add, Nat.pow_add]
  have m3 : 2 ^ m * 4 * v.den ≤ 2 ^ m * 4 * 2 ^ k := Nat.mul_le_mul_left _ (by omega)
  have m4 : 1 * 2 ^ k ≤ 2 ^ m * 4 * 2 ^ k := Nat.mul_le_mul_right _ (by omega)
  have e3 : ((2 ^ m * 4 : Nat) : Int) * v.den = ((2 ^ m * 4 * v.den : Nat) : Int) := by rw [Int.natCast_mul (2 ^ m * 4)]
  rw [Int.neg_mul] at m2
  rw [e3] at m1 m2
  refine ⟨?_, ?_⟩
  · unfold ZB; rw [e2]; omega
  · unfold ZB; rw [e2, Int.natAbs_natCast]; omega
section
variable {h : Heap} {K : Value → Heap → Prop} {x y l : List UInt8}
theorem read2_spec (hl : l.length ≤ 100000000) (hK : ∀ (w : QV) (t : Bool) h', h.le h' → (t = true ↔ IsNum l) → (IsNum l → NQ h' w (rv l)) → K (.tuple #[w.v, .bool t]) h') : FCall Tryz.prog f_NRead #[.string (bs l)] h K := by
  refine read_spec hl ?_ ?_
  · rintro q rfl w h' l' i
    exact hK w true h' l' (by simp; exact ⟨q, rfl⟩) (fun _ => by rw [rv_txt]; exact i)
  · intro hn w h' l'
    exact hK w false h' l' (by simp [hn]) (fun e => absurd e hn)
theorem law_best {small : Int} (gl : Gl h) (_ : -9223372036854775808 ≤ small ∧ small ≤ 9223372036854775807) : FCall Tryz.prog f_LNearestBest #[.string (bs x), .string (bs y), I small] h (LawK h) := by
  refine LNearestBest_ok _ _ _ ?_
  unfold LNearestBest
  rw [bs_size, bs_size]
  obtain ⟨s, hs, hse⟩ := cut_mod small (n := 60) (by omega)
  have hse' : wi64 ((1 : Int) + (Int.tmod (wi64 ((Int.tmod small (60 : Int)) + (60 : Int))) (60 : Int))) = ((s + 1 : Nat) : Int) := hse
  simp only [hse']
  refine ⟨fun L hp => L = [.bool (decide (x.length > 40 ∨ y.length > 40))] ∧ hp = h, Br.dec (fun e => ⟨?_, rfl⟩) (fun e => ⟨?_, rfl⟩), ?_⟩
  · rw [decide_eq_true (show x.length > 40 ∨ y.length > 40 by omega)]
  · by_cases hy : y.length > 40
    · rw [decide_eq_true (show x.length > 40 ∨ y.length > 40 by omega)]
      exact congrArg (fun x => [Value.bool x]) (decide_eq_true (show ((y.length : Nat) : Int) > 40 by omega))
    · rw [decide_eq_false (show ¬ (x.length > 40 ∨ y.length > 40) by omega)]
      exact congrArg (fun x => [Value.bool x]) (decide_eq_false (show ¬ ((y.length : Nat) : Int) > 40 by omega))
  rintro t20 hp ⟨hL, rfl⟩
  obtain rfl : t20 = decide (x.length > 40 ∨ y.length > 40) := by simpa using hL
  refine Br.dec (fun e => known_spec gl ⟨_, rfl, rfl, Heap.le_refl _⟩) (fun e => ?_)
  have sx : Sz 160 (rv x) := rv_sz (k := 40) (by omega) (by omega)
  have sy : Sz 160 (rv y) := rv_sz (k := 40) (by omega) (by omega)
  refine read2_spec (by omega) ?_
  intro wx tx h1 l1 htx ix
  refine ⟨_, _, _, _, _, _, _, _, _, rfl, read2_spec (by omega) ?_⟩
  intro wy ty h2 l2 hty iy
  refine ⟨_, _, _, _, _, _, _, _, _, rfl, ?_⟩
  have sL : Sz 160 (((s + 1 : Nat) : Int) : Rat) := Sz.int (ZB.mono (show ZB 7 ((s + 1 : Nat) : Int) by unfold ZB; omega) (by omega)) (by omega)
  refine ⟨fun S hp5 => h2.le hp5 ∧ ∃ (l : List UInt8) (w : QV), S = [.string (bs l), .bool w.s, .slice w.A w.n w.c, .bool w.s2, .slice w.A2 w.n2 w.c2] ∧ l.length ≤ 570 ∧ Sz 160 (rv l) ∧ (IsNum l ↔ IsNum y) ∧ (IsNum l → NQ hp5 w (rv l)) ∧ (IsNum l → (rv l).den = 1 → 0 < rv l → rv l = (((s + 1 : Nat) : Int) : Rat)), ⟨fun S hp7 => h2.le hp7 ∧ ∃ t : Bool, S = [.bool t] ∧ (t = true ↔ IsNum y ∧ 0 < rv y ∧ (rv y).den = 1), Br.of (fun et => ?_) (fun et => ?_), ?_⟩, ?_⟩
  · have hn := hty.1 et
    have i := iy hn
    refine rsign_spec i ⟨_, rfl, Br.dec (fun e1 => ?_) (fun e1 => ?_)⟩
    · have hpos := sgnQ_gt.1 e1
      refine den_spec i ?_
      intro s3 A3 n3 c3 h3 l3 i3
      refine ⟨_, _, _, _, rfl, bits_spec i3 sy.den (by omega) ⟨_, rfl, l3, _, rfl, ?_⟩⟩
      rw [Int.natAbs_natCast, beq_iff_eq]
      constructor
      · intro e2; exact ⟨hn, hpos, blen_one.1 (by omega)⟩
      · intro e2; rw [blen_one.2 e2.2.2]; rfl
    · refine ⟨Heap.le_refl _, false, rfl, ?_⟩
      simp only [Bool.false_eq_true, false_iff]
      intro e2; exact e1 (sgnQ_gt.2 e2.2.1)
  · refine ⟨Heap.le_refl _, false, rfl, ?_⟩
    simp only [Bool.false_eq_true, false_iff]
    intro e2
    rw [hty.2 e2.1] at et; cases et
  · rintro t43 hp7 ⟨l7, t, hS, ht⟩
    obtain rfl : t43 = t := by simpa using hS
    refine Br.of (fun et => ?_) (fun et => ?_)
    · have hn := (ht.1 et).1
      refine r_spec (by omega) ?_
      intro w8 h8 l8 i8
      refine ⟨_, _, _, _, _, _, _, _, rfl, text_spec i8 sL (by omega) ⟨_, rfl, Heap.le_trans l7 l8, txtQ _, w8, rfl, (Tx.big sL (by omega)).len, by rw [rv_txt]; exact sL, ⟨fun _ => hn, fun _ => ⟨_, rfl⟩⟩, fun _ => by rw [rv_txt]; exact i8, fun _ _ _ => rv_txt _⟩⟩
    · refine ⟨l7, y, wy, rfl, by omega, sy, Iff.rfl, fun hn => (iy hn).mono l7, fun hn h1 h0 => ?_⟩
      rw [ht.2 ⟨hn, h0, h1⟩] at et; cases et
  rintro lb b0 bA bn bc b2 bA2 bn2 bc2 hp10 ⟨l10, l, w, hS, hll, sl, hnl, iw, hwv⟩
  simp only [List.cons.injEq, Value.string.injEq, Value.bool.injEq, Value.slice.injEq, and_true] at hS
  obtain ⟨rfl, rfl, ⟨rfl, rfl, rfl⟩, rfl, rfl, rfl, rfl⟩ := hS
  have lh10 := Heap.le_trans l1 (Heap.le_trans l2 l10)
  refine ebest_spec (gl.mono lh10) (by omega) hll sx sl (by omega) (by omega) ?_
  intro r e h11 l11 k1 k2 k3
  have lh11 := Heap.le_trans lh10 l11
  have gl11 := gl.mono lh11
  refine ⟨_, _, rfl, fun S hp => hp = h11 ∧ ∃ t : Bool, S = [.bool t] ∧ (t = true ↔ ¬ (IsNum x ∧ IsNum y)), Br.not (Br.of (fun et => ⟨rfl, _, rfl, ?_⟩) (fun et => ⟨rfl, _, rfl, ?_⟩)), ?_⟩
  · have := htx.1 et
    rw [Bool.not_eq_true', ← Bool.not_eq_true, hty]
    exact ⟨fun a b => a b.2, fun a b => a ⟨this, b⟩⟩
  · have : ¬ IsNum x := fun hn => by rw [htx.2 hn] at et; cases et
    simp [this]
  rintro t63 hp12 ⟨rfl, t, hS, ht⟩
  obtain rfl : t63 = t := by simpa using hS
  refine Br.of (fun et => ?_) (fun et => ?_)
  · have hn := ht.1 et
    obtain ⟨rfl, rfl⟩ := k1 (fun a => hn ⟨a.1, hnl.1 a.2⟩)
    refine known_spec gl11 ⟨_, rfl, Br.of (fun _ => Br.beq (fun _ => ⟨?_, lh11⟩) (fun e => absurd rfl e)) (fun e => by cases e)⟩
    rw [bs_nil_beq]; rfl
  have hxy : IsNum x ∧ IsNum y := by
    apply Classical.byContradiction
    intro hn
    rw [ht.2 hn] at et; cases et
  have hnum := hnl.2 hxy.2
  have iw11 := (iw hnum).mono l11
  refine den_spec iw11 ?_
  intro s3 A3 n3 c3 h13 l13 i13
  have lh13 := Heap.le_trans lh11 l13
  refine ⟨_, _, _, _, rfl, bits_spec i13 sl.den (by omega) ⟨_, rfl, ?_⟩⟩
  rw [Int.natAbs_natCast]
  refine Br.bne (fun e1 => ?_) (fun e1 => ?_)
  · have hd : (rv l).den ≠ 1 := fun e2 => e1 (by rw [blen_one.2 e2]; rfl)
    obtain ⟨rfl, rfl⟩ := k2 hxy.1 hnum (fun a => hd a.1)
    refine known_spec (gl.mono lh13) ⟨_, rfl, Br.of (fun _ => Br.beq (fun _ => ⟨?_, lh13⟩) (fun e => absurd rfl e)) (fun e => by cases e)⟩
    rw [bs_nil_beq]; rfl
  have hd : (rv l).den = 1 := blen_one.1 (by omega)
  refine rsign_spec (iw11.mono l13) ⟨_, rfl, Br.dec (fun e2 => ?_) (fun e2 => ?_)⟩
  · have hle := sgnQ_le.1 e2
    obtain ⟨rfl, rfl⟩ := k2 hxy.1 hnum (fun a => by have := a.2; grind)
    refine known_spec (gl.mono lh13) ⟨_, rfl, Br.of (fun _ => Br.beq (fun _ => ⟨?_, lh13⟩) (fun e => absurd rfl e)) (fun e => by cases e)⟩
    rw [bs_nil_beq]; rfl
  have hpos : 0 < rv l := by
    have : ¬ rv l ≤ 0 := fun a => e2 (sgnQ_le.2 a)
    exact Rat.not_le.1 this
  have hval := hwv hnum hd hpos
  rw [Rat.intCast_natCast] at hval
  obtain ⟨rfl, v, rfl, hv⟩ := k3 hxy.1 hnum (s + 1) (by omega) hval
  refine known_spec (gl.mono lh13) ⟨_, rfl, Br.of (fun _ => Br.beq (fun _ => ?_) (fun e => absurd rfl e)) (fun e => by cases e)⟩
  have lx : h1.le h13 := Heap.le_trans l2 (Heap.le_trans l10 (Heap.le_trans l11 l13))
  refine fbest_spec ((ix hxy.1).mono lx) sx (by omega) (by omega) (by omega) ?_
  intro w14 v' h14 l14 i14 s14 hv'
  obtain rfl := IsBest.unique hv hv'
  refine ⟨_, _, _, _, _, _, _, _, rfl, text_spec i14 s14 (by omega) ⟨_, rfl, ?_, Heap.le_trans lh13 l14⟩⟩
  rw [bs_beq]; simp
end
end Go.Proofs.YtgnclfejnndicaaGreatDoor
