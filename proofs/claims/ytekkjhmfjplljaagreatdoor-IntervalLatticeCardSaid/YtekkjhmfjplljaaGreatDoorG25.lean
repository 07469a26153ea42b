/-
  Texts of this proof, merged by a program of ours: XNew.
-/
import Derived.Test.YtekkjhmfjplljaaGreatDoorG14
/-
  append where there is no room: a new block, and all that was seen stays.
-/
namespace Go.Proofs.YtekkjhmfjplljaaGreatDoor
open Go
theorem appendNew_ok {P : Program} {t e ty : TypeId} {z : Value} {size bytes : Nat} (st : SliceT P t e z size bytes) {h : Heap} {A : Option Addr} {n c : Nat} {xs : List Value} (hx : xs.length = n * size) (hold : xs = [] \/ ∃ a, A = some a /\ ∀ j v, xs[j]? = some v -> h.cell? (a.add j) = some v)
    {B : Option Addr} {m d : Nat} {ys : List Value} (hy : ys.length = m * size) (hc : ys = [] \/ ∃ a, B = some a /\ ∀ j v, ys[j]? = some v -> h.cell? (a.add j) = some v) (hlt : c < n + m)
    (hb : (2 * (n + m) + 192) * bytes <= 281474976710656) (hm : n + m <= 9223372036854775807) {K : Value -> Heap -> Prop}
    (x : ∀ A' c' h', Priv h' h e size A' (n + m) c' (xs ++ ys) -> K (.slice A' (n + m) c') h') :
    wpH P (Builtin.append_ #[t, t] ty #[.slice A n c, .slice B m d]) K h := by
  obtain ⟨i, hi, hz, hsz, hby⟩ := st.parts
  have hposx := st.pos
  unfold Builtin.append_
  simp only [List.getElem?_toArray, List.getElem?_cons_zero, List.getElem?_cons_succ, wpH_bind_eq, wpH_underlying st.und, wpH_sizeOf hi, wpH_pure, Bool.false_eq_true, if_false, Builtin.lenOf, hsz, Bool.not_false, if_true]
  have hfit : ¬ n + m <= c := by omega
  simp only [hfit, if_false, wpH_bind_eq, wpH_typeInfo hi, hby]
  have hnx := nextcap_le hlt
  have hnb : Builtin.nextslicecap (n + m) c * bytes <= 281474976710656 := Nat.le_trans (Nat.mul_le_mul_right _ hnx) hb
  rw [if_neg (by rintro ⟨h', _⟩; simp only [IntKind.max, IntKind.signed, IntKind.bits] at h'; simp at h'; omega)]
  simp only [wpH_bind_eq, wpH_typeInfo hi, hby]
  rw [if_neg (by simp only [show (2 ^ 48 : Nat) = 281474976710656 from rfl]; omega)]
  simp only [wpH_pure, wpH_bind_eq]
  refine wpH_choose rfl fun tt => ?_
  simp only [wpH_askRoom, wpH_typeInfo hi]
  refine firstCells_ok hx hold ?_
  refine firstCells_ok hy hc ?_
  simp only [wpH_zeroValue hi hz, wpH_newRow]
  intro b hfree
  have hcut : ∃ nc, (Question.appendCap (n + m) c e).cut tt = nc /\ n + m <= nc := ⟨_, rfl, by simp only [Question.cut]; omega⟩
  obtain ⟨nc, hnc, hge⟩ := hcut
  rw [hnc]
  refine x _ nc _ ⟨by rw [List.length_append, hx, hy, Nat.add_mul], hge, .inr ⟨b, xs ++ ys ++ (Builtin.zeroCells z.cells (nc - (n + m))).toList, rfl, hfree, ?_, ?_, ?_⟩⟩
  . congr 1; simp
  . have hzl : (Builtin.zeroCells z.cells (nc - (n + m))).toList.length = (nc - (n + m)) * size := by simp [Builtin.zeroCells, st.cells]
    rw [List.length_append, List.length_append, hx, hy, hzl, <- Nat.add_mul, <- Nat.add_mul]
    congr 1; omega
  . rw [List.take_append_of_le_length (by rw [List.length_append, hx, hy, Nat.add_mul]; omega), List.take_of_length_le (by rw [List.length_append, hx, hy, Nat.add_mul]; omega)]
theorem SlV.cells {h : Heap} {A : Option Addr} {xs : List Value} (s : SlV h A xs) : xs = [] \/ ∃ a, A = some a /\ ∀ j v, xs[j]? = some v -> h.cell? (a.add j) = some v := by
  by_cases h0 : xs = []
  . exact .inl h0
  . right
    have hpos : 0 < xs.length := List.length_pos_iff.2 h0
    obtain ⟨a, ha, _⟩ := s.at (i := 0) hpos
    refine ⟨a, ha, fun j v hj => ?_⟩
    have hjl : j < xs.length := by
      by_cases hl : j < xs.length
      . exact hl
      . rw [List.getElem?_eq_none (by omega)] at hj; cases hj
    obtain ⟨a', ha', hc⟩ := s.at (i := j) hjl
    rw [ha] at ha'
    cases ha'
    rw [List.getElem?_eq_getElem hjl] at hj
    cases hj
    exact hc
end Go.Proofs.YtekkjhmfjplljaaGreatDoor
