/-
  Texts of this proof, merged by a program of ours: NumM, NumN, IvP.
-/
import Derived.Test.YtekkjhmfjplljaaGreatDoorG13
import Derived.Test.YtekkjhmfjplljaaGreatDoorG14
/-
  Text of numbers in the reference: Digits, FromDigits, Text, Read, Num.
-/
namespace Go.Proofs.YtekkjhmfjplljaaGreatDoor
open Go
set_option maxRecDepth 20000
theorem und_bytes : Tryz.prog.underlying ty_tBytes_e = some (.int .u8) := by kernel_rfl
theorem und_string : Tryz.prog.underlying ty_string = some .string := by kernel_rfl
def pv : List Nat -> Nat
  | [] => 0
  | d :: r => d + 1000000000 * pv r
theorem pv_snoc (ps : List Nat) (d : Nat) : pv (ps ++ [d]) = pv ps + 10 ^ (9 * ps.length) * d := by
  induction ps with
  | nil => simp [pv]
  | cons p ps ih =>
    simp only [List.cons_append, pv, ih, List.length_cons]
    rw [show 9 * (ps.length + 1) = 9 * ps.length + 9 by omega, Nat.pow_add, show 10 ^ 9 = 1000000000 by decide]
    grind
theorem pv_drop_le (ps : List Nat) (k : Nat) : pv (ps.drop k) <= pv ps := by
  induction ps generalizing k with
  | nil => simp
  | cons p ps ih =>
    cases k with
    | zero => simp
    | succ k => have := ih k; simp only [List.drop_succ_cons, pv]; omega
theorem pv_drop {ps : List Nat} {k : Nat} (h : k < ps.length) : pv (ps.drop k) = ps[k] + 1000000000 * pv (ps.drop (k + 1)) := by
  rw [List.drop_eq_getElem_cons h]; rfl
def pw (e : Nat) : Nat := if e = 0 then 0 else 10 ^ (e - 1)
theorem pw_succ (e : Nat) : pw (e + 1) = 10 ^ e := by simp [pw]
theorem pw_div (e : Nat) : pw (e + 1) / 10 = pw e := by
  rw [pw_succ]
  cases e with
  | zero => simp [pw]
  | succ e => rw [pw_succ, Nat.pow_succ, Nat.mul_div_cancel _ (by decide)]
theorem dd_step (V d : Nat) (hd : d < 10) : dd (10 * V + d) = if V ≠ 0 \/ d ≠ 0 then dd V ++ [dch d] else dd V := by
  by_cases h : 10 * V + d = 0
  . have h1 : V = 0 := by omega
    have h2 : d = 0 := by omega
    subst h1 h2
    simp
  . rw [if_pos (by omega), dd_pos h, show (10 * V + d) / 10 = V by omega, show (10 * V + d) % 10 = d by omega]
theorem dd_nil_iff (n : Nat) : (dd n).length = 0 ↔ n = 0 := by
  constructor
  . intro h
    by_cases h0 : n = 0
    . exact h0
    . exact absurd (List.eq_nil_of_length_eq_zero h) (dd_ne h0)
  . rintro rfl; rw [dd_zero]; rfl
section
variable {h h' : Heap} {K : Value -> Heap -> Prop} {A B : Option Addr} {n c n' c' : Nat} {s s' : Bool} {x y z : Int} {m : Nat} {p q : Rat} {a b w : QV}
theorem digits_spec (i : NI h s A n c z) (hz : ZB m z) (hm : m <= 1000000000) (hK : K (.string (bs (digs z.natAbs))) h) : FCall Tryz.prog f_NDigits #[.agg #[.bool s, .slice A n c]] h K := by
  have h0 := i.zero_iff
  have hln := i.len hz hm
  refine FCall.pure (NDigits_ok _ _ _ _ ?_)
  unfold NDigits
  refine Br.beq (fun e => ?_) (fun e => ?_)
  . have : z = 0 := h0.1 (by omega)
    subst this
    exact ⟨Heap.le_refl h, hK⟩
  . have hz0 : z ≠ 0 := fun e1 => e (by have := h0.2 e1; omega)
    generalize hZ : z.natAbs = Z at *
    have hZm : Z < 2 ^ m := by rw [<- hZ]; exact hz
    rw [digs_pos (show Z ≠ 0 by omega)] at hK
    have hmag := i.mag
    rw [hZ] at hmag
    refine ⟨fun l hp => ∃ (ps : List Nat) (X : Nat) (A B : Option Addr) (c mn mc : Nat) (g : Heap), l = [.slice A ps.length c, .slice B mn mc] /\ h.le g /\ Priv hp g ty_tU32s_e 1 A ps.length c (ps.map fun (d : Nat) => U32 (d : Int)) /\ Mg g B mn X /\ mn <= 100000000 /\ (∀ d ∈ ps, d < 1000000000) /\ Z = pv ps + 10 ^ (9 * ps.length) * X /\ 29 * ps.length <= m + 29, fun l hp => match l with | [_, .slice B n _] => mval b32 hp B n | _ => 0, ⟨[], Z, none, A, 0, n, c, h, rfl, Heap.le_refl h, Priv.nil _ _ _ _, hmag, hln, by simp, by simp [pv], by simp⟩, ?_⟩
    rintro A1 n1 c1 B1 mn mc hp ⟨ps, X, A1', B1', c1', mn', mc', g, hl, hle, P1, M1, q1, hps, hZp, hlen⟩
    obtain ⟨⟨rfl, rfl, rfl⟩, rfl, rfl, rfl⟩ : (A1 = A1' /\ n1 = ps.length /\ c1 = c1') /\ B1 = B1' /\ mn = mn' /\ mc = mc' := by simpa using hl
    have hX0 := M1.len_zero (by decide)
    refine Br.dec (fun h1 => ?_) (fun h1 => ?_)
    . have hX : X ≠ 0 := by omega
      have hl29 : 29 * ps.length < m := by
        have h2 : 2 ^ (29 * ps.length) <= 10 ^ (9 * ps.length) := by
          rw [Nat.pow_mul, Nat.pow_mul]
          exact Nat.pow_le_pow_left (by decide) _
        have h3 : 10 ^ (9 * ps.length) * 1 <= 10 ^ (9 * ps.length) * X := Nat.mul_le_mul_left _ (by omega)
        exact (Nat.pow_lt_pow_iff_right (a := 2) (by decide)).1 (by omega)
      refine P1.call ?_
      refine smallDiv_spec M1 (by decide) q1 ?_
      intro A2 m2 c2 h2 l2 k2 k3 M2 h3 P3
      refine ⟨_, _, _, _, rfl, ?_⟩
      have hmod : ((X : Int) % 1000000000) = ((X % 1000000000 : Nat) : Int) := by omega
      have hdiv : ((X : Int) / 1000000000) = ((X / 1000000000 : Nat) : Int) := by omega
      rw [hdiv] at M2
      rw [hmod]
      refine push_ok tU32s P3 rfl rfl (by omega) (by omega) ?_
      intro A4 c4 h4 g4 l4 P4
      have M4 : Mg g4 A2 m2 ((X / 1000000000 : Nat) : Int) := M2.mono l4
      refine ⟨⟨ps ++ [X % 1000000000], X / 1000000000, A4, A2, c4, m2, c2, g4, by simp, Heap.le_trans hle (Heap.le_trans l2 l4), by simpa using P4, M4, by omega, ?_, ?_, ?_⟩, ?_⟩
      . intro d hd
        rcases List.mem_append.1 hd with h5 | h5
        . exact hps d h5
        . rw [List.mem_singleton.1 h5]; exact Nat.mod_lt _ (by decide)
      . rw [pv_snoc, List.length_append, List.length_singleton, Nat.mul_add, Nat.pow_add, hZp, Nat.add_assoc, Nat.mul_assoc, <- Nat.mul_add, show 10 ^ (9 * 1) = 1000000000 by decide, Nat.mod_add_div]
      . rw [List.length_append, List.length_singleton]; omega
      . show mval b32 h4 A2 m2 < mval b32 hp B1 mn
        rw [mval_eq (M4.mono P4.le), mval_eq (M1.mono P1.le)]
        simp only [Int.toNat_natCast]
        exact Nat.div_lt_self (by omega) (by decide)
    . have hX : X = 0 := by omega
      subst hX
      rw [Nat.mul_zero, Nat.add_zero] at hZp
      have sps : SlV hp A1 (ps.map fun (d : Nat) => U32 (d : Int)) := P1.slV
      have hps0 : ps.length ≠ 0 := by
        intro e0
        rw [List.eq_nil_of_length_eq_zero e0] at hZp
        simp [pv] at hZp; omega
      have hVl : ∀ V, V <= Z -> (dd V).length <= m := by
        intro V hV
        apply dd_len_le.2
        have : 2 ^ m <= 10 ^ m := Nat.pow_le_pow_left (by decide) _
        omega
      have e1 : wi64 ((ps.length : Int) - 1) = (ps.length : Int) - 1 := wi64_id (by omega) (by omega)
      rw [e1]
      refine ⟨fun l h4 => ∃ (k : Nat) (A : Option Addr) (n c : Nat) (g : Heap), l = [.slice A n c, I ((k : Int) - 1)] /\ k <= ps.length /\ hp.le g /\ n = (dd (pv (ps.drop k))).length /\ Priv h4 g ty_tBytes_e 1 A n c (yv (dd (pv (ps.drop k)))), fun l _ => (iAt l 1 + 1).toNat, ⟨ps.length, none, 0, 0, hp, rfl, Nat.le_refl _, Heap.le_refl hp, by simp [pv, dd_zero], by simpa [pv, dd_zero, yv] using Priv.nil _ _ _ _⟩, ?_⟩
      rintro A2 n2 c2 i2 h4 ⟨k, A2', n2', c2', g4, hl2, hk, lg, hn2, P2⟩
      obtain ⟨⟨rfl, rfl, rfl⟩, rfl⟩ : (A2 = A2' /\ n2 = n2' /\ c2 = c2') /\ i2 = (k : Int) - 1 := by simpa using hl2
      refine Br.dec (fun h2 => ?_) (fun h2 => ?_)
      . obtain ⟨j, rfl⟩ : ∃ j, k = j + 1 := ⟨k - 1, by omega⟩
        have ej : ((j + 1 : Nat) : Int) - 1 = (j : Int) := by omega
        rw [ej]
        have hj : j < ps.length := by omega
        have hpd := pv_drop hj
        have hpj : ps[j] < 1000000000 := hps _ (List.getElem_mem hj)
        have hle2 := pv_drop_le ps j
        refine ⟨fun l h5 => ∃ (e : Nat) (A : Option Addr) (n c : Nat) (g : Heap), l = [.slice A n c, U32 (pw e : Int)] /\ e <= 9 /\ hp.le g /\ n = (dd (pv (ps.drop (j + 1)) * 10 ^ (9 - e) + ps[j] / 10 ^ e)).length /\ Priv h5 g ty_tBytes_e 1 A n c (yv (dd (pv (ps.drop (j + 1)) * 10 ^ (9 - e) + ps[j] / 10 ^ e))), fun l _ => (iAt l 1).toNat, ⟨9, A2, n2, c2, g4, rfl, by omega, lg, ?_, ?_⟩, ?_⟩
        . rw [Nat.div_eq_of_lt (by simpa using hpj)]; simpa using hn2
        . rw [Nat.div_eq_of_lt (by simpa using hpj)]; simpa using P2
        rintro A5 n5 c5 d h5 ⟨e, A5', n5', c5', g5, hl5, he, lg5, hn5, P5⟩
        obtain ⟨⟨rfl, rfl, rfl⟩, rfl⟩ : (A5 = A5' /\ n5 = n5' /\ c5 = c5') /\ d = (pw e : Int) := by simpa using hl5
        generalize hV : pv (ps.drop (j + 1)) * 10 ^ (9 - e) + ps[j] / 10 ^ e = V at *
        refine Br.dec (fun h6 => ?_) (fun h6 => ?_)
        . obtain ⟨f, rfl⟩ : ∃ f, e = f + 1 := by
            cases e with
            | zero => simp [pw] at h6
            | succ f => exact ⟨f, rfl⟩
          have hpw : pw (f + 1) = 10 ^ f := pw_succ f
          have hpf : 0 < 10 ^ f := Nat.pow_pos (by decide)
          have hpf8 : 10 ^ f <= 100000000 := by
            have : 10 ^ f <= 10 ^ 8 := Nat.pow_le_pow_right (by decide) (by omega)
            simpa using this
          have hVn : pv (ps.drop (j + 1)) * 10 ^ (9 - f) + ps[j] / 10 ^ f = 10 * V + ps[j] / 10 ^ f % 10 := by
            rw [<- hV, show 9 - f = (9 - (f + 1)) + 1 by omega, Nat.pow_succ, Nat.pow_succ, <- Nat.div_div_eq_div_mul, Nat.mul_add]
            have := Nat.div_add_mod (ps[j] / 10 ^ f) 10
            grind
          have hVle : 10 * V + ps[j] / 10 ^ f % 10 <= Z := by
            rw [<- hVn]
            have t1 : 10 ^ (9 - f) * 10 ^ f = 1000000000 := by rw [<- Nat.pow_add, show 9 - f + f = 9 by omega]
            have t2 : 10 ^ (9 - f) <= 1000000000 := by rw [<- t1]; exact Nat.le_mul_of_pos_right _ hpf
            have t3 : pv (ps.drop (j + 1)) * 10 ^ (9 - f) <= pv (ps.drop (j + 1)) * 1000000000 := Nat.mul_le_mul_left _ t2
            have t4 := Nat.div_le_self ps[j] (10 ^ f)
            omega
          have ec : wu8 (wu32 ((48 : Int) + Int.tmod (wu32 (Int.tdiv (ps[j] : Int) ((pw (f + 1) : Nat) : Int))) 10)) = ((48 + ps[j] / 10 ^ f % 10 : Nat) : Int) := by
            rw [hpw]
            have t1 : Int.tdiv (ps[j] : Int) ((10 ^ f : Nat) : Int) = ((ps[j] / 10 ^ f : Nat) : Int) := by rw [<- Int.ofNat_tdiv]
            rw [t1]
            have t2 : ps[j] / 10 ^ f < 1000000000 := Nat.lt_of_le_of_lt (Nat.div_le_self _ _) hpj
            clear t1
            generalize ps[j] / 10 ^ f = D at t2 ⊢
            rw [wu32_id (n := (D : Int)) (by omega) (by omega)]
            have t3 : Int.tmod (D : Int) 10 = ((D % 10 : Nat) : Int) := by
              rw [Int.tmod_eq_emod_of_nonneg (by omega)]; omega
            rw [t3, wu32_id (by omega) (by omega), wu8_id (by omega) (by omega)]; omega
          have hd10 : ps[j] / 10 ^ f % 10 < 10 := Nat.mod_lt _ (by decide)
          have sps5 : SlV h5 A1 (ps.map fun (d : Nat) => U32 (d : Int)) := sps.mono (Heap.le_trans lg5 P5.le)
          refine ⟨fun l h6 => ∃ (A : Option Addr) (n c : Nat) (g : Heap), l = [.slice A n c] /\ hp.le g /\ n = (dd (10 * V + ps[j] / 10 ^ f % 10)).length /\ Priv h6 g ty_tBytes_e 1 A n c (yv (dd (10 * V + ps[j] / 10 ^ f % 10))), ?_, ?_⟩
          . obtain ⟨ad, had, hcell⟩ := SlV.at sps5 (i := j) (by simpa using hj)
            refine ⟨ad, had, by omega, by omega, (ps[j] : Int), by rw [Int.toNat_natCast, Nat.mul_one, hcell]; simp, ?_⟩
            refine Br.dec (fun e0 => absurd e0 (by omega)) (fun _ => ?_)
            rw [ec]
            have hstep := dd_step V (ps[j] / 10 ^ f % 10) hd10
            have hVnil := dd_nil_iff V
            refine ⟨fun l h7 => l = [.bool (decide (V ≠ 0 \/ ps[j] / 10 ^ f % 10 ≠ 0))] /\ h7 = h5, Br.dec (fun h7 => ⟨?_, rfl⟩) (fun h7 => ⟨?_, rfl⟩), ?_⟩
            . have : V ≠ 0 := by omega
              simp [this]
            . have : V = 0 := by omega
              have e2 : ∀ D : Nat, (((48 + D : Nat) : Int) != 48) = decide (V ≠ 0 \/ D ≠ 0) := by
                intro D
                rw [Bool.eq_iff_iff, bne_iff_ne, decide_eq_true_iff]; omega
              rw [e2]
            rintro tb h7 ⟨hl7, rfl⟩
            obtain rfl : tb = decide (V ≠ 0 \/ ps[j] / 10 ^ f % 10 ≠ 0) := by simpa using hl7
            refine Br.dec (fun h8 => ?_) (fun h8 => ?_)
            . rw [if_pos h8] at hstep
              have hl8 := hVl _ hVle
              rw [hstep, List.length_append, List.length_singleton] at hl8
              refine push_ok tBytes P5 rfl rfl (by omega) (by omega) ?_
              intro A9 c9 h9 g9 l9 P9
              refine ⟨A9, n5 + 1, c9, g9, rfl, Heap.le_trans lg5 l9, by rw [hstep, List.length_append, hn5]; rfl, ?_⟩
              rw [hstep, yv_append]
              have : yv [dch (ps[j] / 10 ^ f % 10)] = [Y ((48 + ps[j] / 10 ^ f % 10 : Nat) : Int)] := by
                simp only [yv, List.map_cons, List.map_nil, dch_toNat hd10]
              rw [this]; exact P9
            . rw [if_neg h8] at hstep
              exact ⟨A5, n5, c5, g5, rfl, lg5, by rw [hstep]; exact hn5, by rw [hstep]; exact P5⟩
          . rintro A9 n9 c9 h9 ⟨A9', n9', c9', g9, hl9, lg9, hn9, P9⟩
            obtain ⟨rfl, rfl, rfl⟩ : A9 = A9' /\ n9 = n9' /\ c9 = c9' := by simpa using hl9
            have ed : wu32 (Int.tdiv ((pw (f + 1) : Nat) : Int) 10) = ((pw f : Nat) : Int) := by
              have t1 : Int.tdiv ((pw (f + 1) : Nat) : Int) 10 = ((pw (f + 1) / 10 : Nat) : Int) := by rw [Int.natCast_ediv, Int.tdiv_eq_ediv_of_nonneg (by omega)]; rfl
              rw [t1, pw_div, wu32_id (by omega) (by have := pw_div f; rw [hpw] at this; omega)]
            rw [ed]
            refine ⟨⟨f, A9, n9, c9, g9, rfl, by omega, lg9, by rw [hVn]; exact hn9, by rw [hVn]; exact P9⟩, ?_⟩
            simp only [iAt, List.getElem?_cons_zero, List.getElem?_cons_succ, Int.toNat_natCast]
            have := pw_div f
            rw [hpw] at this ⊢
            omega
        . have he0 : e = 0 := by
            cases e with
            | zero => rfl
            | succ f => rw [pw_succ] at h6; have : 0 < 10 ^ f := Nat.pow_pos (by decide); omega
          subst he0
          have hV2 : V = pv (ps.drop j) := by rw [<- hV, hpd]; simp; omega
          rw [hV2] at P5 hn5
          rw [wi64_id (by omega) (by omega)]
          exact ⟨⟨j, A5, n5, c5, g5, rfl, by omega, lg5, hn5, P5⟩, by simp only [iAt, List.getElem?_cons_zero, List.getElem?_cons_succ]; omega⟩
      . have hk0 : k = 0 := by omega
        subst hk0
        rw [List.drop_zero, <- hZp] at P2 hn2
        refine toStr_ok tBytes.und und_bytes und_string P2.slV hn2 ?_
        exact ⟨_, rfl, Heap.le_trans hle (Heap.le_trans P1.le (Heap.le_trans lg P2.le)), hK⟩
end
end Go.Proofs.YtekkjhmfjplljaaGreatDoor
/-
  FromDigits, Text, Read, Num.
-/
namespace Go.Proofs.YtekkjhmfjplljaaGreatDoor
open Go
set_option maxRecDepth 20000
theorem bs_lit (a : Array UInt8) : ({ data := a } : ByteArray) = bs a.toList := by simp [bs]
theorem dval_lt_pow {l : List UInt8} (h : ∀ c ∈ l, isDig c) : dval l < 2 ^ (4 * l.length) := by
  have h1 := dval_lt h
  have h2 : 10 ^ l.length <= 16 ^ l.length := Nat.pow_le_pow_left (by decide) _
  have h3 : 16 ^ l.length = 2 ^ (4 * l.length) := by rw [Nat.pow_mul]
  omega
theorem mg_len {h : Heap} {A : Option Addr} {n m : Nat} {X : Nat} (M : Mg h A n X) (hx : X < 2 ^ m) (hm : m <= 1000000000) : n <= 100000000 := by
  have := mag_len (j := 32) (by decide) M (m := m) (by have : ((X : Nat) : Int) < ((2 ^ m : Nat) : Int) := by omega
                                                       simpa using this)
  omega
section
variable {h h' : Heap} {K : Value -> Heap -> Prop} {A B : Option Addr} {n c n' c' : Nat} {s s' : Bool} {x y z : Int} {m : Nat} {p q : Rat} {a b w : QV} {l : List UInt8}
theorem fromDigits_spec (hl : l.length <= 200000000) (hK : ∀ s A n c ok h', h.le h' -> (ok = true -> (∀ c ∈ l, isDig c) /\ l ≠ [] /\ NI h' s A n c (dval l)) -> (ok = false -> ¬ ((∀ c ∈ l, isDig c) /\ l ≠ [])) -> K (.tuple #[.agg #[.bool s, .slice A n c], .bool ok]) h') : FCall Tryz.prog f_NFromDigits #[.string (bs l)] h K := by
  refine NFromDigits_ok _ ?_
  unfold NFromDigits
  simp only [bs_size]
  refine ⟨fun L hp => ∃ (i : Nat) (A : Option Addr) (n c : Nat), L = [.slice A n c, I i, .bool false, .slice none 0 0] /\ i <= l.length /\ h.le hp /\ (∀ c ∈ l.take i, isDig c) /\ Mg hp A n (dval (l.take i)) /\ n <= c, fun L _ => l.length - (iAt L 1).toNat, ⟨0, none, 0, 0, rfl, by omega, Heap.le_refl h, by simp, Mag.zero, Nat.le_refl _⟩, ?_⟩
  rintro A1 n1 c1 i1 t20 A2 n2 c2 hp ⟨i, A1', n1', c1', hL, hi, hle, hdig, M, hc⟩
  obtain ⟨⟨rfl, rfl, rfl⟩, rfl, rfl, rfl, rfl, rfl⟩ : (A1 = A1' /\ n1 = n1' /\ c1 = c1') /\ i1 = (i : Int) /\ t20 = false /\ A2 = none /\ n2 = 0 /\ c2 = 0 := by simpa using hL
  refine Br.dec (fun h1 => ?_) (fun h1 => ?_)
  . refine ⟨fun L hq => ∃ (k : Nat), L = [I ((i + k : Nat) : Int), U32 (dval ((l.drop i).take k) : Nat), U32 ((10 ^ k : Nat) : Int), .bool false, .slice none 0 0] /\ 0 < k /\ k <= 9 /\ i + k <= l.length /\ hq = hp /\ (∀ c ∈ (l.drop i).take k, isDig c), ?_, ?_⟩
    . refine ⟨fun L hq => ∃ (k : Nat), L = [I ((i + k : Nat) : Int), U32 (dval ((l.drop i).take k) : Nat), U32 ((10 ^ k : Nat) : Int), I k, .bool false, .slice none 0 0] /\ k <= 9 /\ i + k <= l.length /\ hq = hp /\ (∀ c ∈ (l.drop i).take k, isDig c), fun L _ => 9 - (iAt L 3).toNat, ⟨0, by simp [dval], by omega, by omega, rfl, by simp⟩, ?_⟩
      rintro i2 v f k2 t201 A3 n3 c3 hp1 ⟨k, hL2, hk9, hik, rfl, hd2⟩
      obtain ⟨rfl, rfl, rfl, rfl, rfl, rfl, rfl, rfl⟩ : i2 = ((i + k : Nat) : Int) /\ v = ((dval ((l.drop i).take k) : Nat) : Int) /\ f = ((10 ^ k : Nat) : Int) /\ k2 = (k : Int) /\ t201 = false /\ A3 = none /\ n3 = 0 /\ c3 = 0 := by simpa using hL2
      refine Br.dec (fun h2 => Br.dec (fun h3 => ?_) (fun h3 => ?_)) (fun h2 => ?_)
      . have hlt : i + k < l.length := by omega
        have hget : (bs l)[((i + k : Nat) : Int).toNat]? = some l[i + k] := by rw [Int.toNat_natCast, bs_get, List.getElem?_eq_getElem hlt]
        have hbad : ¬ isDig l[i + k] -> ∀ s A n c, K (.tuple #[.agg #[.bool s, .slice A n c], .bool false]) hp1 := by
          intro hb s A n c
          exact hK _ _ _ _ _ _ hle (fun e => by cases e) (fun _ ⟨h5, _⟩ => hb (h5 _ (List.getElem_mem hlt)))
        refine ⟨l[i + k], ⟨by omega, hget⟩, Br.dec (fun h4 => ?_) (fun h4 => ?_)⟩
        . exact hbad (fun hd => by unfold isDig at hd; omega) _ _ _ _
        . refine ⟨l[i + k], ⟨by omega, hget⟩, Br.dec (fun h5 => ?_) (fun h5 => ?_)⟩
          . exact hbad (fun hd => by unfold isDig at hd; omega) _ _ _ _
          . have hdc : isDig l[i + k] := by unfold isDig; omega
            refine ⟨l[i + k], ⟨by omega, hget⟩, ?_⟩
            have htk : (l.drop i).take (k + 1) = (l.drop i).take k ++ [l[i + k]] := by
              rw [List.take_succ_eq_append_getElem (by rw [List.length_drop]; omega)]; simp
            have hb9 : dval ((l.drop i).take k) < 10 ^ k := by
              have := dval_lt hd2
              rwa [List.length_take, List.length_drop, Nat.min_eq_left (by omega)] at this
            have hpk : 10 ^ k <= 100000000 := by
              have : 10 ^ k <= 10 ^ 8 := Nat.pow_le_pow_right (by decide) (by omega)
              simpa using this
            have e1 : wi64 (((i + k : Nat) : Int) + 1) = ((i + (k + 1) : Nat) : Int) := by rw [wi64_id (by omega) (by omega)]; omega
            have e2 : wi64 ((k : Int) + 1) = ((k + 1 : Nat) : Int) := by rw [wi64_id (by omega) (by omega)]; omega
            have e3 : wu32 (((10 ^ k : Nat) : Int) * 10) = ((10 ^ (k + 1) : Nat) : Int) := by rw [Nat.pow_succ, wu32_id (by omega) (by omega)]; omega
            have e4 : wu32 (wu32 (((dval ((l.drop i).take k) : Nat) : Int) * 10) + wu32 (wu8 ((l[i + k].toNat : Int) - 48))) = ((dval ((l.drop i).take (k + 1)) : Nat) : Int) := by
              rw [htk, dval_snoc, wu8_id (by omega) (by omega), wu32_id (n := (l[i + k].toNat : Int) - 48) (by omega) (by omega), wu32_id (n := ((dval ((l.drop i).take k) : Nat) : Int) * 10) (by omega) (by omega), wu32_id (by omega) (by omega)]; omega
            rw [e1, e2, e3, e4]
            refine ⟨⟨k + 1, rfl, by omega, by omega, rfl, ?_⟩, by simp only [iAt, List.getElem?_cons_zero, List.getElem?_cons_succ]; omega⟩
            rw [htk]
            intro c hc
            rcases List.mem_append.1 hc with h6 | h6
            . exact hd2 c h6
            . rw [List.mem_singleton.1 h6]; exact hdc
      . exact ⟨k, rfl, by omega, hk9, hik, rfl, hd2⟩
      . exact ⟨k, rfl, by omega, hk9, hik, rfl, hd2⟩
    . rintro i2 v f t202 A3 n3 c3 hp2 ⟨k, hL2, hk0, hk9, hik, rfl, hd2⟩
      obtain ⟨rfl, rfl, rfl, rfl, rfl, rfl, rfl⟩ : i2 = ((i + k : Nat) : Int) /\ v = ((dval ((l.drop i).take k) : Nat) : Int) /\ f = ((10 ^ k : Nat) : Int) /\ t202 = false /\ A3 = none /\ n3 = 0 /\ c3 = 0 := by simpa using hL2
      have hb9 : dval ((l.drop i).take k) < 10 ^ k := by
        have := dval_lt hd2
        rwa [List.length_take, List.length_drop, Nat.min_eq_left (by omega)] at this
      have hpk : 0 < 10 ^ k /\ 10 ^ k <= 1000000000 := by
        have : 10 ^ k <= 10 ^ 9 := Nat.pow_le_pow_right (by decide) (by omega)
        exact ⟨Nat.pow_pos (by decide), by simpa using this⟩
      have hlk : ((l.drop i).take k).length = k := by rw [List.length_take, List.length_drop]; omega
      have htk : l.take (i + k) = l.take i ++ (l.drop i).take k := List.take_add
      have hd3 : ∀ c ∈ l.take (i + k), isDig c := by
        rw [htk]; intro c hc
        rcases List.mem_append.1 hc with h6 | h6
        . exact hdig c h6
        . exact hd2 c h6
      have hv3 : dval (l.take (i + k)) = dval (l.take i) * 10 ^ k + dval ((l.drop i).take k) := by rw [htk, dval_append, hlk]
      have hX1 : dval (l.take i) < 2 ^ (4 * l.length) := Nat.lt_of_lt_of_le (dval_lt_pow hdig) (Nat.pow_le_pow_right (by decide) (by rw [List.length_take]; omega))
      have hX3 : dval (l.take (i + k)) < 2 ^ (4 * l.length) := Nat.lt_of_lt_of_le (dval_lt_pow hd3) (Nat.pow_le_pow_right (by decide) (by rw [List.length_take]; omega))
      have hmn := mg_len M hX1 (by omega)
      refine lit1_ok tU32s rfl ?_
      intro bf hbf
      refine ⟨_, _, _, rfl, ?_⟩
      have lf := Heap.le_put (h := hp2) (b := bf) (.cells #[U32 ((10 ^ k : Nat) : Int)] ty_tU32s_e) hbf
      have Mf : Mg (hp2.put bf (.cells #[U32 ((10 ^ k : Nat) : Int)] ty_tU32s_e)) (some ⟨bf, 0, none⟩) 1 ((10 ^ k : Nat) : Int) :=
        ⟨[((10 ^ k : Nat) : Int)], rfl, SlI.new hp2 bf [((10 ^ k : Nat) : Int)] ty_tU32s_e _, Dig.one ⟨by omega, by show _ < (4294967296 : Int); omega⟩, by simp only [Norm, List.getLast?_singleton, ne_eq, Option.some.injEq]; omega, val_one _ _⟩
      refine mulMag_spec (M.mono lf) Mf hmn (by omega) ?_
      intro A4 m4 c4 h4 l4 k4 M4
      refine ⟨_, _, _, rfl, ?_⟩
      refine lit1_ok tU32s rfl ?_
      intro bv hbv
      refine ⟨_, _, _, rfl, ?_⟩
      have lv := Heap.le_put (h := h4) (b := bv) (.cells #[U32 ((dval ((l.drop i).take k) : Nat) : Int)] ty_tU32s_e) hbv
      refine trim_mag (xs := [((dval ((l.drop i).take k) : Nat) : Int)]) (SlI.new h4 bv _ ty_tU32s_e _) (Dig.one ⟨by omega, by show _ < (4294967296 : Int); omega⟩) (Nat.le_refl _) (by simp) ?_
      intro m5 k5 M5
      refine ⟨_, _, _, rfl, ?_⟩
      rw [val_one] at M5
      have e4 : ((dval (l.take i) : Nat) : Int) * ((10 ^ k : Nat) : Int) = ((dval (l.take i) * 10 ^ k : Nat) : Int) := by rw [Int.natCast_mul]
      rw [e4] at M4
      refine addMag_spec (M4.mono lv) M5 (mg_len M4 (m := 4 * l.length) (by omega) (by omega)) (by simp at k5; omega) ?_
      intro A6 m6 c6 h6 l6 k6 M6
      have e6 : ((dval (l.take i) * 10 ^ k : Nat) : Int) + ((dval ((l.drop i).take k) : Nat) : Int) = ((dval (l.take (i + k)) : Nat) : Int) := by rw [hv3]; omega
      rw [e6] at M6
      exact ⟨_, _, _, rfl, ⟨i + k, A6, m6, c6, rfl, hik, Heap.le_trans hle (Heap.le_trans lf (Heap.le_trans l4 (Heap.le_trans lv l6))), hd3, M6, k6⟩, by simp only [iAt, List.getElem?_cons_zero, List.getElem?_cons_succ]; omega⟩
  . have : i = l.length := by omega
    subst this
    rw [List.take_length] at hdig M
    refine make1_spec M hc ?_
    intro s1 i1
    refine ⟨_, _, _, _, rfl, ?_⟩
    have e : (!((bs l).toList == ({ data := #[] } : ByteArray).toList)) = decide (l ≠ []) := by
      rw [bs_lit, bs_beq]; simp
    rw [e]
    refine hK _ _ _ _ _ _ hle (fun e1 => ⟨hdig, by simpa using e1, i1⟩) (fun e1 => ?_)
    have : l = [] := by simpa using e1
    rintro ⟨_, h5⟩; exact h5 this
theorem digs_len_le {n m : Nat} (h : n < 2 ^ m) : (digs n).length <= m + 1 := by
  rw [digs_len (by omega)]
  have : 2 ^ m <= 10 ^ (m + 1) := Nat.le_trans (Nat.pow_le_pow_left (by decide) m) (Nat.pow_le_pow_right (by decide) (by omega))
  omega
theorem text_spec (i : NQ h w q) (hq : Sz m q) (hm : m <= 1000000000) (hK : K (.string (bs (txtQ q))) h) : FCall Tryz.prog f_NText #[w.v] h K := by
  have hs := i.num.sg
  have hd0 := i.den_zero
  refine NText_ok _ _ _ _ _ _ _ _ ?_
  unfold NText
  have l1 := digs_len_le hq.num
  have l2 := digs_len_le (n := q.den) (m := m) (by have := hq.den; unfold ZB at this; simpa using this)
  refine digits_spec i.num hq.num hm ⟨_, rfl, ?_⟩
  refine ⟨fun l h' => l = [.string (bs (txtI q.num))] /\ h' = h, Br.of (fun e => ?_) (fun e => ?_), ?_⟩
  . have hneg : q.num < 0 := by rw [hs] at e; simpa using e
    refine ⟨?_, ?_, rfl⟩
    . rw [bs_lit, bs_size, bs_size]; simp; omega
    . rw [bs_lit, bs_append]; unfold txtI; rw [if_pos hneg]; rfl
  . have hneg : ¬ q.num < 0 := by rw [hs] at e; simpa using e
    exact ⟨by unfold txtI; rw [if_neg hneg], rfl⟩
  rintro t h1 ⟨hl, rfl⟩
  obtain rfl : t = bs (txtI q.num) := by simpa using hl
  have l3 : (txtI q.num).length <= m + 2 := by
    unfold txtI; split
    . rw [List.length_cons]; omega
    . omega
  refine Br.dec (fun e => ?_) (fun e => ?_)
  . have hd : ¬ q.den = 1 := fun e1 => by have := hd0.2 e1; omega
    have hden := i.den
    rw [if_neg hd] at hden
    refine digits_spec hden hq.den hm ⟨_, rfl, ?_, ?_, ?_⟩
    . rw [bs_lit, bs_size, bs_size, Int.natAbs_natCast]; simp; omega
    . rw [bs_lit, bs_append, bs_size, bs_size, Int.natAbs_natCast]; simp; omega
    . rw [bs_lit, bs_append, bs_append, Int.natAbs_natCast]
      unfold txtQ at hK
      rw [if_neg hd] at hK
      exact hK
  . have hd : q.den = 1 := hd0.1 (by omega)
    unfold txtQ at hK
    rw [if_pos hd, List.append_nil] at hK
    exact hK
theorem split47 {t a r a' r' : List UInt8} (h1 : t = a ++ r) (h2 : ∀ c ∈ a, c ≠ 47) (h3 : r = [] \/ r.head? = some 47) (g1 : t = a' ++ r') (g2 : ∀ c ∈ a', c ≠ 47) (g3 : r' = [] \/ r'.head? = some 47) : a = a' /\ r = r' := by
  induction a generalizing t a' with
  | nil =>
    cases a' with
    | nil => simp at h1 g1; exact ⟨rfl, h1.symm.trans g1⟩
    | cons c a' =>
      exfalso
      subst h1
      rcases h3 with h3 | h3
      . subst h3; simp at g1
      . rw [g1] at h3
        simp at h3
        exact g2 c (by simp) h3
  | cons c a ih =>
    cases a' with
    | nil =>
      exfalso
      subst g1
      rcases g3 with g3 | g3
      . subst g3; simp at h1
      . rw [h1] at g3
        simp at g3
        exact h2 c (by simp) g3
    | cons c' a' =>
      subst h1
      simp at g1
      obtain ⟨rfl, g1⟩ := g1
      obtain ⟨e1, e2⟩ := ih rfl (fun x hx => h2 x (by simp [hx])) g1 (fun x hx => g2 x (by simp [hx]))
      exact ⟨by rw [e1], e2⟩
theorem txtQ_tail (q : Rat) : txtQ q = (if q.num < 0 then [45] else []) ++ (digs q.num.natAbs ++ (if q.den = 1 then [] else 47 :: digs q.den)) := by
  unfold txtQ txtI; split <;> simp
theorem digs_ne47 (n : Nat) : ∀ c ∈ digs n, c ≠ 47 := fun c hc => (isDig_ne (digs_dig n c hc)).2
theorem fNum_divInt {neg : Bool} {q : Rat} (h : neg = decide (q.num < 0)) : Rat.divInt (if neg = true then -((q.num.natAbs : Nat) : Int) else ((q.num.natAbs : Nat) : Int)) q.den = q := by
  have : (if neg = true then -((q.num.natAbs : Nat) : Int) else ((q.num.natAbs : Nat) : Int)) = q.num := by
    rw [h]
    by_cases h0 : q.num < 0
    . rw [if_pos (by simpa using h0)]; omega
    . rw [if_neg (by simpa using h0)]; omega
  rw [this, Rat.num_divInt_den]
theorem read_spec (hl : l.length <= 100000000) (hK1 : ∀ q, l = txtQ q -> ∀ w h', h.le h' -> NQ h' w q -> K (.tuple #[w.v, .bool true]) h') (hK0 : ¬ IsNum l -> ∀ (w : QV) h', h.le h' -> K (.tuple #[w.v, .bool false]) h') : FCall Tryz.prog f_NRead #[.string (bs l)] h K := by
  refine NRead_ok _ ?_
  unfold NRead
  simp only [bs_size]
  refine ⟨fun L h' => L = [.bool (l.head? == some 45)] /\ h' = h, Br.dec (fun h1 => ?_) (fun h1 => ?_), ?_⟩
  . cases l with
    | nil => simp at h1
    | cons c r =>
      refine ⟨c, ⟨by omega, by rw [bs_get]; rfl⟩, ?_, rfl⟩
      have : ((c.toNat : Int) == 45) = ((c :: r).head? == some 45) := by
        rw [Bool.eq_iff_iff, beq_iff_eq, beq_iff_eq, List.head?_cons, Option.some.injEq]
        constructor
        . intro e; apply UInt8.toNat_inj.1; show c.toNat = 45; omega
        . rintro rfl; rfl
      rw [this]
  . have : l = [] := List.eq_nil_of_length_eq_zero (by omega)
    subst this; exact ⟨rfl, rfl⟩
  rintro neg hp ⟨hL, rfl⟩
  obtain rfl : neg = (l.head? == some 45) := by simpa using hL
  refine ⟨fun L h' => L = [.string (bs (if (l.head? == some 45) then l.drop 1 else l))] /\ h' = hp, Br.of (fun e => ?_) (fun e => ?_), ?_⟩
  . have hlen : 1 <= l.length := by
      cases l with
      | nil => simp at e
      | cons _ _ => simp
    refine ⟨⟨by omega, by omega⟩, ?_, rfl⟩
    rw [if_pos e, bs_extract, List.take_of_length_le (by rw [List.length_drop]; show _ <= l.length - 1; exact Nat.le_refl _)]; rfl
  . rw [if_neg (by rw [e]; simp)]; exact ⟨rfl, rfl⟩
  rintro t0 hp1 ⟨hL1, rfl⟩
  generalize ht : (if (l.head? == some 45) then l.drop 1 else l) = t at *
  obtain rfl : t0 = bs t := by simpa using hL1
  have htl : t.length <= l.length := by rw [<- ht]; split <;> simp
  have hlt : l = (if (l.head? == some 45) then [45] else []) ++ t := by
    rw [<- ht]
    cases l with
    | nil => simp
    | cons c r =>
      by_cases hc : c = 45
      . subst hc; simp
      . simp [hc]
  have hnum : ∀ q, l = txtQ q -> (l.head? == some 45) = decide (q.num < 0) /\ t = digs q.num.natAbs ++ (if q.den = 1 then [] else 47 :: digs q.den) := by
    intro q e
    have f := txtQ_form q
    rw [<- e] at f
    have hh := f.head
    refine ⟨hh.symm, ?_⟩
    have e2 := hlt
    rw [<- hh, e, txtQ_tail q] at e2
    by_cases h0 : q.num < 0
    . simp [h0] at e2; exact e2.symm
    . simp [h0] at e2; exact e2.symm
  refine ⟨fun L h' => ∃ at_ : Nat, L = [I at_] /\ h' = hp1 /\ at_ <= t.length /\ (∀ c ∈ t.take at_, c ≠ 47) /\ (t.drop at_ = [] \/ (t.drop at_).head? = some 47), ?_, ?_⟩
  . simp only [bs_size]
    refine ⟨fun L h' => ∃ i : Nat, L = [I t.length, I i] /\ h' = hp1 /\ i <= t.length /\ (∀ c ∈ t.take i, c ≠ 47), fun L _ => t.length - (iAt L 1).toNat, ⟨0, rfl, rfl, by omega, by simp⟩, ?_⟩
    rintro atv i1 hp2 ⟨i, hL2, rfl, hi, hno⟩
    obtain ⟨rfl, rfl⟩ : atv = (t.length : Int) /\ i1 = (i : Int) := by simpa using hL2
    refine Br.dec (fun h1 => ?_) (fun h1 => ?_)
    . have hit : i < t.length := by omega
      refine ⟨t[i], ⟨by omega, by rw [Int.toNat_natCast, bs_get, List.getElem?_eq_getElem hit]⟩, Br.beq (fun h2 => ?_) (fun h2 => ?_)⟩
      . refine ⟨i, rfl, rfl, hi, hno, .inr ?_⟩
        rw [List.head?_drop, List.getElem?_eq_getElem hit]
        congr 1
        apply UInt8.toNat_inj.1
        show t[i].toNat = 47
        omega
      . rw [wi64_id (by omega) (by omega)]
        refine ⟨⟨i + 1, rfl, rfl, by omega, ?_⟩, by simp only [iAt, List.getElem?_cons_zero, List.getElem?_cons_succ]; omega⟩
        rw [List.take_succ_eq_append_getElem hit]
        intro c hc
        rcases List.mem_append.1 hc with h3 | h3
        . exact hno c h3
        . rw [List.mem_singleton.1 h3]
          intro e; rw [e] at h2; exact h2 rfl
    . have : i = t.length := by omega
      subst this
      exact ⟨t.length, rfl, rfl, Nat.le_refl _, hno, .inl (by simp)⟩
  rintro at1 hp3 ⟨at_, hL3, rfl, hat, hno, hrest⟩
  obtain rfl : at1 = (at_ : Int) := by simpa using hL3
  simp only [bs_size, bs_extract, Int.toNat_natCast, List.drop_zero, Nat.sub_zero]
  refine ⟨⟨by omega, by omega⟩, ?_⟩
  have htsplit : t = t.take at_ ++ t.drop at_ := (List.take_append_drop at_ t).symm
  have hparts : ∀ q, l = txtQ q -> t.take at_ = digs q.num.natAbs /\ t.drop at_ = (if q.den = 1 then [] else 47 :: digs q.den) := by
    intro q e
    refine split47 htsplit hno hrest (hnum q e).2 (digs_ne47 _) ?_
    split
    . left; rfl
    . right; rfl
  refine fromDigits_spec (by rw [List.length_take]; omega) ?_
  intro s1 A1 n1 c1 ok1 h1 l1 k1 k0
  refine ⟨_, _, _, _, _, rfl, Br.not (Br.of (fun e => ?_) (fun e => ?_))⟩
  . obtain ⟨dg, dne, iN⟩ := k1 e
    have hZB : ZB (4 * l.length) (dval (t.take at_) : Int) := by
      unfold ZB
      rw [Int.natAbs_natCast]
      exact Nat.lt_of_lt_of_le (dval_lt_pow dg) (Nat.pow_le_pow_right (by decide) (by rw [List.length_take]; omega))
    have im := iN.mag
    rw [Int.natAbs_natCast] at im
    refine make1_spec im iN.cap ?_
    intro s2 i2
    refine ⟨_, _, _, _, rfl, ?_⟩
    have hZB2 : ZB (4 * l.length) (if (l.head? == some 45) = true then -((dval (t.take at_) : Nat) : Int) else ((dval (t.take at_) : Nat) : Int)) := by
      split
      . exact hZB.neg
      . exact hZB
    have fin : ∀ (q0 : Rat) (w : QV) (h5 : Heap), hp3.le h5 -> NQ h5 w q0 -> Sz (4 * l.length + 1) q0 -> (∀ q, l = txtQ q -> q = q0) ->
        FCall Tryz.prog f_NText #[w.v] h5 (fun r5 hp9 => ∃ (t79 : ByteArray), r5 = .string t79 /\ Heap.le h5 hp9 /\ K (.tuple #[w.v, .bool (ByteArray.toList t79 == ByteArray.toList (bs l))]) hp9) := by
      intro q0 w h5 l5 iq hsz hun
      refine text_spec iq hsz (by omega) ⟨_, rfl, Heap.le_refl _, ?_⟩
      rw [bs_beq]
      by_cases hc : txtQ q0 = l
      . rw [decide_eq_true hc]
        exact hK1 q0 hc.symm w h5 l5 iq
      . rw [decide_eq_false hc]
        refine hK0 ?_ w h5 l5
        rintro ⟨q, e⟩
        exact hc (by rw [<- hun q e]; exact e.symm)
    refine Br.dec (fun e2 => ?_) (fun e2 => ?_)
    . have e3 : wi64 ((at_ : Int) + 1) = ((at_ + 1 : Nat) : Int) := by rw [wi64_id (by omega) (by omega)]; omega
      rw [e3]
      refine ⟨⟨by omega, by omega⟩, ?_⟩
      rw [Int.toNat_natCast, List.take_of_length_le (show (t.drop (at_ + 1)).length <= t.length - (at_ + 1) by rw [List.length_drop]; omega)]
      have hb : t.drop at_ = 47 :: t.drop (at_ + 1) := by
        rcases hrest with h0 | h0
        . have := congrArg List.length h0; rw [List.length_drop] at this; simp at this; omega
        . rw [List.head?_drop] at h0
          have hlt2 : at_ < t.length := by omega
          rw [List.getElem?_eq_getElem hlt2] at h0
          rw [List.drop_eq_getElem_cons hlt2]
          congr 1
          simpa using h0
      refine fromDigits_spec (by rw [List.length_drop]; omega) ?_
      intro s3 A3 n3 c3 ok3 h3 l3 j1 j0
      have hden : ∀ q, l = txtQ q -> q.den ≠ 1 /\ t.drop (at_ + 1) = digs q.den := by
        intro q e
        have := (hparts q e).2
        rw [hb] at this
        by_cases hd : q.den = 1
        . simp [hd] at this
        . simp [hd] at this; exact ⟨hd, this⟩
      refine ⟨_, _, _, _, _, rfl, Br.not (Br.of (fun e4 => ?_) (fun e4 => ?_))⟩
      . obtain ⟨dg2, dne2, iD⟩ := j1 e4
        refine sign_spec iD ⟨_, rfl, Br.beq (fun e5 => ?_) (fun e5 => ?_)⟩
        . refine hK0 ?_ ⟨false, none, 0, 0, false, none, 0, 0⟩ _ (Heap.le_trans l1 l3)
          rintro ⟨q, e⟩
          have h6 := (hden q e).2
          have h7 : ((dval (t.drop (at_ + 1)) : Nat) : Int) = 0 := Int.sign_eq_zero_iff_zero.1 e5
          rw [h6, dval_digs] at h7
          exact q.den_nz (by omega)
        . have hne0 : ((dval (t.drop (at_ + 1)) : Nat) : Int) ≠ 0 := fun e6 => e5 (by rw [e6]; rfl)
          have hZB3 : ZB (4 * l.length) (dval (t.drop (at_ + 1)) : Int) := by
            unfold ZB
            rw [Int.natAbs_natCast]
            exact Nat.lt_of_lt_of_le (dval_lt_pow dg2) (Nat.pow_le_pow_right (by decide) (by rw [List.length_drop]; omega))
          refine frac_spec (i2.mono l3) iD hne0 hZB2 hZB3 (by omega) ?_
          intro w h5 l5 iq
          refine ⟨_, _, _, _, _, _, _, _, rfl, ?_⟩
          refine fin _ w h5 (Heap.le_trans l1 (Heap.le_trans l3 l5)) iq ((Sz.divInt hne0 hZB2 hZB3).mono (by omega)) ?_
          intro q e
          rw [(hparts q e).1, (hden q e).2, dval_digs, dval_digs]
          exact (fNum_divInt (hnum q e).1).symm
      . refine hK0 ?_ ⟨false, none, 0, 0, false, none, 0, 0⟩ _ (Heap.le_trans l1 l3)
        rintro ⟨q, e⟩
        exact j0 e4 (by rw [(hden q e).2]; exact ⟨digs_dig _, digs_ne _⟩)
    . have hat2 : at_ = t.length := by omega
      refine fin _ ⟨s2, A1, n1, c1, false, none, 0, 0⟩ h1 l1 (NQ.whole i2) (Sz.int (hZB2.mono (by omega)) (by omega)) ?_
      intro q e
      have h6 := (hparts q e).2
      rw [hat2, List.drop_length] at h6
      have hd : q.den = 1 := by
        by_cases hd : q.den = 1
        . exact hd
        . simp [hd] at h6
      rw [(hparts q e).1, dval_digs]
      have := fNum_divInt (hnum q e).1
      rw [hd] at this
      rw [<- divInt_one]
      exact this.symm
  . refine hK0 ?_ ⟨false, none, 0, 0, false, none, 0, 0⟩ _ l1
    rintro ⟨q, e2⟩
    exact k0 e (by rw [(hparts q e2).1]; exact ⟨digs_dig _, digs_ne _⟩)
end
end Go.Proofs.YtekkjhmfjplljaaGreatDoor
/-
  Intervals: plain laws on numbers, no program here.
-/
namespace Go.Proofs.YtekkjhmfjplljaaGreatDoor
open Go
def mn (p q : Rat) : Rat := if q < p then q else p
def mx (p q : Rat) : Rat := if q > p then q else p
def mnL (p : Rat) (l : List Rat) : Rat := l.foldl mn p
def mxL (p : Rat) (l : List Rat) : Rat := l.foldl mx p
theorem mnL_cons (p q : Rat) (l : List Rat) : mnL p (q :: l) = mnL (mn p q) l := rfl
theorem mxL_cons (p q : Rat) (l : List Rat) : mxL p (q :: l) = mxL (mx p q) l := rfl
theorem mnL_nil (p : Rat) : mnL p [] = p := rfl
theorem mxL_nil (p : Rat) : mxL p [] = p := rfl
theorem mnL_snoc (p q : Rat) (l : List Rat) : mnL p (l ++ [q]) = mn (mnL p l) q := by simp [mnL]
theorem mxL_snoc (p q : Rat) (l : List Rat) : mxL p (l ++ [q]) = mx (mxL p l) q := by simp [mxL]
theorem mn_or (p q : Rat) : mn p q = p \/ mn p q = q := by unfold mn; split <;> simp
theorem mx_or (p q : Rat) : mx p q = p \/ mx p q = q := by unfold mx; split <;> simp
theorem hull_eq {a b c d : Rat} (h1 : a <= b) (h2 : c <= d) : mnL a [b, c, d] = mn a c /\ mxL a [b, c, d] = mx b d := by
  simp only [mnL_cons, mxL_cons, mnL_nil, mxL_nil]
  constructor
  . unfold mn; grind
  . unfold mx; grind
def powLo (a b : Rat) (k : Nat) : Rat := if 0 < k /\ k % 2 = 0 /\ a < 0 /\ 0 < b then mnL 0 [a ^ k, b ^ k] else mn (a ^ k) (b ^ k)
def powHi (a b : Rat) (k : Nat) : Rat := if 0 < k /\ k % 2 = 0 /\ a < 0 /\ 0 < b then mxL 0 [a ^ k, b ^ k] else mx (a ^ k) (b ^ k)
def mulLo (a b c d : Rat) : Rat := mnL (a * c) [a * d, b * c, b * d]
def mulHi (a b c d : Rat) : Rat := mxL (a * c) [a * d, b * c, b * d]
end Go.Proofs.YtekkjhmfjplljaaGreatDoor
