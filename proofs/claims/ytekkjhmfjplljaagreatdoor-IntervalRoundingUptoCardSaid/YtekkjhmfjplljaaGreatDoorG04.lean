/-
  Texts of this proof, merged by a program of ours: XCode.
-/
import Derived.Test.YtekkjhmfjplljaaGreatDoorG03
/-
  The code of a whole function: branches, blocks, loops (with what is kept at a round's head), and what a call of it comes to.
-/
namespace Go.Proofs.YtekkjhmfjplljaaGreatDoor
open Go
inductive Ex where
  | normal
  | exit (id : Nat)
  | ret
structure Ann where
  slots : List Nat
  owns : List (Nat × Nat)
  zs : List Value
  lim : Lim
structure FnAnn where
  loops : List (Nat × Ann)
  cuts : List (Nat × Ann)
  orders : List (Nat × List Nat × List (List Nat))
def findAnn {α : Type} : List (Nat × α) -> Nat -> Option α
  | [], _ => none
  | (k, x) :: r, i => bif Nat.beq i k then some x else findAnn r i
def firstRegion : Code -> Option Nat
  | .region id _ _ => some id
  | .seq a b => match firstRegion a with
    | some i => some i
    | none => firstRegion b
  | .block _ b => firstRegion b
  | .loop b => firstRegion b
  | .cond _ a b => match firstRegion a with
    | some i => some i
    | none => firstRegion b
  | _ => none
def posOf : List Nat -> Nat -> Nat -> Option Nat
  | [], _, _ => none
  | x :: xs, i, j => bif Nat.beq i x then some j else posOf xs i (j + 1)
def posOwn : List (Nat × Nat) -> Nat -> Nat -> Option (Nat × Nat)
  | [], _, _ => none
  | (k, n) :: r, i, j => bif Nat.beq i k then some (j, n) else posOwn r i (j + n)
def headSt (ann : Ann) (st : VS) (vs : List Value) : VS :=
  { env := fun i => match posOf ann.slots i 0 with
      | some j => .val (vs.getD j undef)
      | none => bif has ann.lim.slots i then .any else st.env i
    own := fun k => match posOwn ann.owns k ann.slots.length with
      | some (j, n) => some ((vs.drop j).take n)
      | none => st.own k }
def getSlots (st : VS) : List Nat -> Option (List Value)
  | [] => some []
  | i :: is => match st.env i with
    | .val v => match getSlots st is with
      | some vs => some (v :: vs)
      | none => none
    | _ => none
def getOwns (st : VS) : List (Nat × Nat) -> Option (List Value)
  | [] => some []
  | (k, n) :: r => match st.own k with
    | some cs => bif Nat.beq cs.length n then (match getOwns st r with
      | some vs => some (cs ++ vs)
      | none => none) else none
    | none => none
def kindsOk : List Value -> List Value -> Bool
  | [], [] => true
  | z :: zs, v :: vs => kindOk z v && kindsOk zs vs
  | _, _ => false
def keep (ann : Ann) (st : VS) (h : Heap) (K : List Value -> Heap -> Prop) : Prop :=
  match getSlots st ann.slots with
  | some xs => match getOwns st ann.owns with
    | some ys => When (kindsOk ann.zs (xs ++ ys)) (K (xs ++ ys) h)
    | none => False
  | none => False
def headOk (cfg : Cfg) (ann : Ann) (st : VS) : Bool :=
  ann.lim.slots.all (fun d => limOk cfg d) && ann.lim.keys.all (fun k => inKeys cfg.lim k && ((st.own k).isNone || (posOwn ann.owns k 0).isSome)) &&
  ann.slots.all (has ann.lim.slots) && ann.owns.all (fun p => has ann.lim.keys p.1) && kindsLen ann
where
  kindsLen (ann : Ann) : Bool := Nat.beq ann.zs.length (ann.slots.length + ann.owns.foldr (fun p s => p.2 + s) 0)
def Cfg.within (cfg : Cfg) (ann : Ann) : Cfg := { n := cfg.n, own := cfg.own, lim := some ann.lim, fns := cfg.fns, wr := cfg.wr }
def vcLoop (ann : Ann) (cfg : Cfg) (body : Cfg -> VS -> Heap -> (Ex -> VS -> Heap -> Prop) -> Prop) (st : VS) (h : Heap) (Q : Ex -> VS -> Heap -> Prop) : Prop :=
  When (headOk cfg ann st) <|
  ∃ (Inv : List Value -> Heap -> Prop) (μ : List Value -> Heap -> Nat), keep ann st h Inv /\
    allL ann.zs fun vs => ∀ h, Inv vs h -> body (cfg.within ann) (headSt ann st vs) h fun e st' h' =>
      match e with
      | .normal => keep ann st' h' fun vs' h' => Inv vs' h' /\ μ vs' h' < μ vs h
      | e => Q e st' h'
def vcCut (ann : Ann) (cfg : Cfg) (a b : Cfg -> VS -> Heap -> (Ex -> VS -> Heap -> Prop) -> Prop) (st : VS) (h : Heap) (Q : Ex -> VS -> Heap -> Prop) : Prop :=
  When (headOk cfg ann st) <|
  ∃ J : List Value -> Heap -> Prop, (a (cfg.within ann) st h fun e st' h' =>
      match e with
      | .normal => keep ann st' h' J
      | e => Q e st' h') /\
    allL ann.zs fun vs => ∀ h, J vs h -> b cfg (headSt ann st vs) h Q
def vcCode (P : Program) (fa : FnAnn) : Code -> Cfg -> VS -> Heap -> (Ex -> VS -> Heap -> Prop) -> Prop
  | .skip, _, st, h, Q => Q .normal st h
  | .region id ops draw, cfg, st, h, Q =>
    match draw with
    | false => vcOps P cfg ops false (List.range ops.size) st h (Q .normal)
    | true =>
      match findAnn fa.orders id with
      | some (ord, anc) => When (drawOk P ops ord anc) (vcOpsD P cfg ops anc ord st h (Q .normal))
      | none => False
  | .seq a b, cfg, st, h, Q =>
    match (firstRegion b).bind (findAnn fa.cuts) with
    | none => vcCode P fa a cfg st h fun e st' h' =>
      match e with
      | .normal => vcCode P fa b cfg st' h' Q
      | e => Q e st' h'
    | some ann => vcCut ann cfg (vcCode P fa a) (vcCode P fa b) st h Q
  | .cond c t e, cfg, st, h, Q =>
    match evalA st c with
    | .val (.bool b) => Br b (vcCode P fa t cfg st h Q) (vcCode P fa e cfg st h Q)
    | _ => False
  | .block id b, cfg, st, h, Q => vcCode P fa b cfg st h fun e st' h' =>
      match e with
      | .exit j => bif Nat.beq j id then Q .normal st' h' else Q (.exit j) st' h'
      | e => Q e st' h'
  | .loop b, cfg, st, h, Q =>
    match (firstRegion b).bind (findAnn fa.loops) with
    | none => False
    | some ann => vcLoop ann cfg (vcCode P fa b) st h Q
  | .exit id, _, st, h, Q => Q (.exit id) st h
  | .ret, _, st, h, Q => Q .ret st h
  | _, _, _, _, _ => False
section
variable {P : Program} {n : Nat} {st : VS} {h : Heap} {a : Act} {W : World}
theorem posOf_some {l : List Nat} : ∀ {i j p : Nat}, posOf l i j = some p -> ∃ q, p = j + q /\ l[q]? = some i := by
  induction l with
  | nil => intro i j p e; cases e
  | cons x xs ih =>
    intro i j p e
    unfold posOf at e
    cases hb : Nat.beq i x with
    | true =>
      rw [hb] at e
      have := Nat.eq_of_beq_eq_true hb
      simp only [cond_true, Option.some.injEq] at e
      exact ⟨0, by omega, by simp [this]⟩
    | false =>
      rw [hb] at e
      obtain ⟨q, hq, hl⟩ := ih e
      exact ⟨q + 1, by omega, by simpa using hl⟩
theorem posOf_none {l : List Nat} : ∀ {i j : Nat}, posOf l i j = none -> i ∉ l := by
  induction l with
  | nil => intro i j _ hm; cases hm
  | cons x xs ih =>
    intro i j e hm
    unfold posOf at e
    cases hb : Nat.beq i x with
    | true => rw [hb] at e; cases e
    | false =>
      rw [hb] at e
      cases hm with
      | head => rw [Nat.beq_refl] at hb; cases hb
      | tail _ hm => exact ih e hm
theorem getSlots_at {l : List Nat} : ∀ {vs : List Value} {q i : Nat}, getSlots st l = some vs -> l[q]? = some i -> ∃ v, vs[q]? = some v /\ st.env i = .val v := by
  induction l with
  | nil => intro vs q i _ e; simp at e
  | cons x xs ih =>
    intro vs q i hg e
    unfold getSlots at hg
    split at hg
    . rename_i v hv
      split at hg
      . rename_i ws hws
        injection hg with hg; subst hg
        cases q with
        | zero => simp at e; subst e; exact ⟨v, by simp, hv⟩
        | succ q => simp at e; simpa using ih hws e
      . cases hg
    . cases hg
theorem getSlots_length {l : List Nat} : ∀ {vs : List Value}, getSlots st l = some vs -> vs.length = l.length := by
  induction l with
  | nil => intro vs e; injection e with e; subst e; rfl
  | cons x xs ih =>
    intro vs hg
    unfold getSlots at hg
    split at hg
    . split at hg
      . rename_i ws hws; injection hg with hg; subst hg; simp [ih hws]
      . cases hg
    . cases hg
theorem getOwns_at {l : List (Nat × Nat)} : ∀ {vs : List Value} {k j p m : Nat}, getOwns st l = some vs -> posOwn l k j = some (p, m) -> ∃ q, p = j + q /\ st.own k = some ((vs.drop q).take m) := by
  induction l with
  | nil => intro vs k j p m _ e; cases e
  | cons x xs ih =>
    obtain ⟨k0, n0⟩ := x
    intro vs k j p m hg e
    unfold getOwns at hg
    split at hg
    . rename_i cs hcs
      cases hb : Nat.beq cs.length n0 with
      | false => rw [hb] at hg; cases hg
      | true =>
        rw [hb] at hg
        have hlen := Nat.eq_of_beq_eq_true hb
        simp only [cond_true] at hg
        split at hg
        . rename_i ws hws
          injection hg with hg; subst hg
          unfold posOwn at e
          cases hk : Nat.beq k k0 with
          | true =>
            rw [hk] at e
            have := Nat.eq_of_beq_eq_true hk; subst this
            simp only [cond_true, Option.some.injEq, Prod.mk.injEq] at e
            obtain ⟨rfl, rfl⟩ := e
            exact ⟨0, by omega, by rw [hcs, List.drop_zero, <- hlen, List.take_left']; rfl⟩
          | false =>
            rw [hk] at e
            obtain ⟨q, hq, ho⟩ := ih hws e
            refine ⟨n0 + q, by omega, ?_⟩
            rw [ho, <- hlen, List.drop_length_add_append]
        . cases hg
    . cases hg
theorem kindsOk_zip {zs : List Value} : ∀ {vs : List Value}, kindsOk zs vs = true -> vs.length = zs.length /\ ∀ p ∈ zs.zip vs, kindOk p.1 p.2 = true := by
  induction zs with
  | nil =>
    intro vs e
    cases vs with
    | nil => exact ⟨rfl, fun p hp => by cases hp⟩
    | cons => cases e
  | cons z zs ih =>
    intro vs e
    cases vs with
    | nil => cases e
    | cons v vs =>
      simp only [kindsOk, Bool.and_eq_true] at e
      obtain ⟨hl, hk⟩ := ih e.2
      refine ⟨by simp [hl], fun p hp => ?_⟩
      simp only [List.zip_cons_cons, List.mem_cons] at hp
      rcases hp with rfl | hp
      . exact e.1
      . exact hk p hp
theorem keep.out {ann : Ann} {K : List Value -> Heap -> Prop} (x : keep ann st h K) :
    ∃ xs ys, getSlots st ann.slots = some xs /\ getOwns st ann.owns = some ys /\ kindsOk ann.zs (xs ++ ys) = true /\ K (xs ++ ys) h := by
  unfold keep at x
  split at x
  . split at x
    . rename_i xs hx _ ys hy
      exact ⟨xs, ys, hx, hy, x.both.1, x.both.2⟩
    . exact x.elim
  . exact x.elim
theorem posOwn_shift {l : List (Nat × Nat)} : ∀ {k i j : Nat}, (posOwn l k i).isSome = (posOwn l k j).isSome := by
  induction l with
  | nil => intros; rfl
  | cons x xs ih =>
    obtain ⟨k0, n0⟩ := x
    intro k i j
    unfold posOwn
    cases Nat.beq k k0 with
    | true => rfl
    | false => exact ih
theorem Good.head {cfg : Cfg} {h0 : Heap} {W0 : World} {ann : Ann} {st0 : VS} (g : Good n h0 W0 st h a W) (hok : headOk cfg ann st0 = true) (ag : Agree (some ann.lim) st0 st) (g0 : ∀ i k off, st0.env i = .own k off -> (st0.own k).isSome = true) (hn : cfg.n = n)
    {xs ys : List Value} (hx : getSlots st ann.slots = some xs) (hy : getOwns st ann.owns = some ys) : Good n h0 W0 (headSt ann st0 (xs ++ ys)) h a W := by
  obtain ⟨θ, r, f, hB⟩ := g
  simp only [headOk, Bool.and_eq_true, List.all_eq_true] at hok
  obtain ⟨⟨⟨⟨h1, h2⟩, h3⟩, h4⟩, _⟩ := hok
  have hlenx := getSlots_length hx
  have henv : ∀ i, (∃ v, (headSt ann st0 (xs ++ ys)).env i = .val v /\ st.env i = .val v) \/ ((headSt ann st0 (xs ++ ys)).env i = .any /\ has ann.lim.slots i = true) \/ ((headSt ann st0 (xs ++ ys)).env i = st.env i /\ st.env i = st0.env i) := by
    intro i
    show (∃ v, (match posOf ann.slots i 0 with
      | some j => AVal.val ((xs ++ ys).getD j undef)
      | none => bif has ann.lim.slots i then .any else st0.env i) = _ /\ _) \/ (_ = _ /\ _) \/ (_ = _ /\ _)
    simp only [headSt]
    cases hp : posOf ann.slots i 0 with
    | some p =>
      obtain ⟨q, hq, hl⟩ := posOf_some hp
      obtain ⟨v, hv, he⟩ := getSlots_at hx hl
      refine .inl ⟨v, ?_, he⟩
      have hql : q < xs.length := (List.getElem?_eq_some_iff.1 hv).1
      have : p = q := by omega
      subst this
      simp [List.getD, List.getElem?_append_left hql, hv]
    | none =>
      cases hh : has ann.lim.slots i with
      | true => exact .inr (.inl ⟨rfl, rfl⟩)
      | false => exact .inr (.inr ⟨(ag.env i hh).symm, ag.env i hh⟩)
  have hown : ∀ k cs, (headSt ann st0 (xs ++ ys)).own k = some cs -> st.own k = some cs := by
    intro k cs e
    simp only [headSt] at e
    cases hp : posOwn ann.owns k ann.slots.length with
    | some p =>
      obtain ⟨p, m⟩ := p
      rw [hp] at e
      obtain ⟨q, hq, ho⟩ := getOwns_at hy hp
      injection e with e
      rw [ho, <- e, hq, <- hlenx, List.drop_length_add_append]
    | none =>
      rw [hp] at e
      have e : st0.own k = some cs := e
      cases hh : has ann.lim.keys k with
      | false => rw [ag.own k hh]; exact e
      | true =>
        have := (h2 k (has_iff.1 hh)).2
        rw [e, posOwn_shift (j := ann.slots.length), hp] at this
        cases this
  refine ⟨θ, ⟨r.defers, r.size, fun i hi => ?_, r.sim, fun k cs e => r.own k cs (hown k cs e), fun k k' hk hk' e => ?_, fun i k off e => ?_, fun i hi => ?_⟩, f, fun k hk => ?_⟩
  . rcases henv i with ⟨v, e1, e2⟩ | ⟨e1, _⟩ | ⟨e1, _⟩
    . rw [e1]; have := r.slot i hi; rw [e2] at this; exact this
    . rw [e1]; trivial
    . rw [e1]; exact r.slot i hi
  . obtain ⟨cs, e1⟩ := Option.isSome_iff_exists.1 hk
    obtain ⟨cs', e2⟩ := Option.isSome_iff_exists.1 hk'
    exact r.inj k k' (by rw [hown k cs e1]; rfl) (by rw [hown k' cs' e2]; rfl) e
  . rcases henv i with ⟨v, e1, _⟩ | ⟨e1, _⟩ | ⟨e1, e2⟩
    . rw [e1] at e; cases e
    . rw [e1] at e; cases e
    . have h5 := g0 i k off (by rw [<- e2, <- e1, e])
      simp only [headSt]
      cases hp : posOwn ann.owns k ann.slots.length with
      | some p => rfl
      | none => exact h5
  . rcases henv i with ⟨v, e1, e2⟩ | ⟨e1, e2⟩ | ⟨e1, e2⟩
    . have := r.out i hi; rw [e1]; rw [e2] at this; exact this
    . have := h1 i (has_iff.1 e2)
      simp only [limOk, Bool.and_eq_true] at this
      have := Nat.le_of_ble_eq_true this.1
      omega
    . rw [e1]; exact r.out i hi
  . obtain ⟨cs, e1⟩ := Option.isSome_iff_exists.1 hk
    exact hB k (by rw [hown k cs e1]; rfl)
theorem Agree.within {cfg : Cfg} {ann : Ann} {st0 st' : VS} (hok : headOk cfg ann st0 = true) {s : VS} (x : Agree (some ann.lim) s st') : Agree cfg.lim s st' := by
  simp only [headOk, Bool.and_eq_true, List.all_eq_true] at hok
  obtain ⟨⟨⟨⟨h1, h2⟩, _⟩, _⟩, _⟩ := hok
  refine ⟨fun i hi => x.env i ?_, fun k hk => x.own k ?_⟩
  . cases hh : has ann.lim.slots i with
    | false => exact hh
    | true =>
      have := h1 i (has_iff.1 hh)
      simp only [limOk, Bool.and_eq_true] at this
      rw [this.2] at hi; cases hi
  . cases hh : has ann.lim.keys k with
    | false => exact hh
    | true => have := (h2 k (has_iff.1 hh)).1; rw [this] at hk; cases hk
theorem Agree.head {ann : Ann} {cfg : Cfg} {st0 : VS} (hok : headOk cfg ann st0 = true) (vs : List Value) : Agree (some ann.lim) st0 (headSt ann st0 vs) := by
  simp only [headOk, Bool.and_eq_true, List.all_eq_true] at hok
  obtain ⟨⟨⟨⟨h1, h2⟩, h3⟩, h4⟩, _⟩ := hok
  refine ⟨fun i hi => ?_, fun k hk => ?_⟩
  . have hi : has ann.lim.slots i = false := hi
    simp only [headSt]
    cases hp : posOf ann.slots i 0 with
    | some p =>
      obtain ⟨q, _, hl⟩ := posOf_some hp
      have := h3 i (List.mem_of_getElem? hl)
      rw [this] at hi; cases hi
    | none => simp [hi]
  . have hk : has ann.lim.keys k = false := hk
    simp only [headSt]
    cases hp : posOwn ann.owns k ann.slots.length with
    | none => rfl
    | some p =>
      exfalso
      have mem : ∀ {l : List (Nat × Nat)} {j : Nat} {p : Nat × Nat}, posOwn l k j = some p -> ∃ m, (k, m) ∈ l := by
        intro l
        induction l with
        | nil => intro j p e; cases e
        | cons x xs ih =>
          obtain ⟨k0, n0⟩ := x
          intro j p e
          unfold posOwn at e
          cases hb : Nat.beq k k0 with
          | true => have := Nat.eq_of_beq_eq_true hb; subst this; exact ⟨n0, by simp⟩
          | false => rw [hb] at e; obtain ⟨m, hm⟩ := ih e; exact ⟨m, by simp [hm]⟩
      obtain ⟨m, hm⟩ := mem hp
      have := h4 (k, m) hm
      rw [this] at hk; cases hk
theorem wp_loop_ghost {α : Type} {c : Code} {Q : Exit -> Act -> World -> Prop} (I : α -> Act -> World -> Prop) (μ : α -> Nat) (z0 : α) (h₀ : I z0 a W)
    (round : ∀ z a w, I z a w -> c.wp P (Exit.then (fun a' w' => ∃ z', I z' a' w' /\ μ z' < μ z) Q) a w) : (Code.loop c).wp P Q a W := by
  intro b k cs
  have key : ∀ m z a w, μ z = m -> I z a w -> ∃ e a' w', Q e a' w' /\ Arrives P (lone (b.at a (.code c :: .inLoop c :: k)) cs w) b k cs e a' w' := by
    intro m
    induction m using Nat.strongRecOn with
    | _ m ih =>
      intro z a w hm hI
      obtain ⟨e, a₁, w₁, hq, harr⟩ := round z a w hI b (.inLoop c :: k) cs
      cases e with
      | normal =>
        obtain ⟨z', hI', hlt⟩ := hq
        obtain ⟨e, a', w', hQ, harr'⟩ := ih _ (by omega) z' a₁ w₁ rfl hI'
        exact ⟨e, a', w', hQ, .of_steps (Steps.trans harr (.one step_inLoop)) harr'⟩
      | exit id => exact ⟨.exit id, a₁, w₁, hq, harr.pass rfl (fun _ _ => .inl (by simp))⟩
      | goto l => exact ⟨.goto l, a₁, w₁, hq, harr.pass rfl (fun _ _ => .inl (by simp))⟩
      | ret => exact ⟨.ret, a₁, w₁, hq, harr⟩
      | panic ch => exact ⟨.panic ch, a₁, w₁, hq, harr⟩
      | outgrown => exact ⟨.outgrown, a₁, w₁, hq, harr⟩
  obtain ⟨e, a', w', hq, harr⟩ := key _ z0 a W rfl h₀
  exact ⟨e, a', w', hq, .of_steps (.one step_loop) harr⟩
def Ex.toExit : Ex -> Exit
  | .normal => .normal
  | .exit id => .exit id
  | .ret => .ret
theorem Good.wf {h0 : Heap} {W0 : World} (g : Good n h0 W0 st h a W) : ∀ i k off, st.env i = .own k off -> (st.own k).isSome = true := by
  obtain ⟨θ, r, _, _⟩ := g; exact r.wf
theorem code_sound {h0 : Heap} {W0 : World} {fa : FnAnn} (c : Code) : ∀ (cfg : Cfg) (st : VS) (h : Heap) (a : Act) (W : World) (Q : Ex -> VS -> Heap -> Prop) (Q' : Exit -> Act -> World -> Prop), cfg.n = n -> Bodies P cfg.fns -> Good n h0 W0 st h a W ->
    vcCode P fa c cfg st h Q -> (∀ e st' h' a' W', Q e st' h' -> Good n h0 W0 st' h' a' W' -> Agree cfg.lim st st' -> Q' e.toExit a' W') -> c.wp P Q' a W := by
  induction c with
  | skip => exact fun cfg st h a W Q Q' hn hf g hv hQ => wp_skip (hQ .normal st h a W hv g (Agree.refl _ _))
  | region id ops draw =>
    intro cfg st h a W Q Q' hn hf g hv hQ
    unfold vcCode at hv
    cases draw with
    | false => exact wp_region (Good.ops hn hf _ st h a W g hv fun st' h' a' W' hK g' ag => hQ .normal st' h' a' W' hK g' ag)
    | true =>
      simp only at hv
      split at hv
      . obtain ⟨hok, hv⟩ := hv.both
        exact draw_sound hn hf hok g hv fun st' h' a' W' hK g' ag => hQ .normal st' h' a' W' hK g' ag
      . exact hv.elim
  | seq x y ihx ihy =>
    intro cfg st h a W Q Q' hn hf g hv hQ
    unfold vcCode at hv
    split at hv
    . refine wp_seq (ihx cfg st h a W _ _ hn hf g hv fun e st' h' a' W' hK g' ag => ?_)
      cases e with
      | normal => exact ihy cfg st' h' a' W' Q Q' hn hf g' hK fun e st2 h2 a2 W2 k g2 ag2 => hQ e st2 h2 a2 W2 k g2 (ag.trans ag2)
      | exit id => exact hQ (.exit id) st' h' a' W' hK g' ag
      | ret => exact hQ .ret st' h' a' W' hK g' ag
    . rename_i ann _
      obtain ⟨hok, J, hv1, hv2⟩ := hv.both
      refine wp_seq (ihx (cfg.within ann) st h a W _ _ hn hf g hv1 fun e st' h' a' W' hK g' ag => ?_)
      cases e with
      | normal =>
        obtain ⟨xs, ys, hx, hy, hk, hJ⟩ := hK.out
        obtain ⟨hl, hz⟩ := kindsOk_zip hk
        have hb := allL.at hv2 hl hz h' hJ
        exact ihy cfg _ h' a' W' Q Q' hn hf (g'.head hok ag g.wf hn hx hy) hb fun e st2 h2 a2 W2 k g2 ag2 => hQ e st2 h2 a2 W2 k g2 (((Agree.head hok _).within hok).trans ag2)
      | exit id => exact hQ (.exit id) st' h' a' W' hK g' (ag.within hok)
      | ret => exact hQ .ret st' h' a' W' hK g' (ag.within hok)
  | cond c x y ihx ihy =>
    intro cfg st h a W Q Q' hn hf g hv hQ
    unfold vcCode at hv
    split at hv
    . rename_i b hb
      obtain ⟨θ, r, _, _⟩ := id g
      cases b with
      | true => exact wp_cond_true (r.evalVal hb) (ihx cfg st h a W Q Q' hn hf g hv hQ)
      | false => exact wp_cond_false (r.evalVal hb) (ihy cfg st h a W Q Q' hn hf g hv hQ)
    . exact hv.elim
  | block id b ih =>
    intro cfg st h a W Q Q' hn hf g hv hQ
    unfold vcCode at hv
    refine wp_block (ih cfg st h a W _ _ hn hf g hv fun e st' h' a' W' hK g' ag => ?_)
    cases e with
    | normal => exact hQ .normal st' h' a' W' hK g' ag
    | ret => exact hQ .ret st' h' a' W' hK g' ag
    | exit j =>
      by_cases hj : j = id
      . subst hj
        have hK : Q .normal st' h' := by simpa using hK
        show Exit.inBlock j Q' (.exit j) a' W'
        simp only [Exit.inBlock, if_true]
        exact hQ .normal st' h' a' W' hK g' ag
      . have hK : Q (.exit j) st' h' := by simpa [beq_ne hj] using hK
        show Exit.inBlock id Q' (.exit j) a' W'
        simp only [Exit.inBlock, hj, if_false]
        exact hQ (.exit j) st' h' a' W' hK g' ag
  | loop b ih =>
    intro cfg st h a W Q Q' hn hf g hv hQ
    unfold vcCode at hv
    split at hv
    . exact hv.elim
    . rename_i ann _
      obtain ⟨hok, Inv, μ, h1, h2⟩ := hv.both
      obtain ⟨xs, ys, hx, hy, hk, hI⟩ := h1.out
      have wf0 := g.wf
      refine wp_loop_ghost (fun (z : List Value × Heap) a' W' => kindsOk ann.zs z.1 = true /\ Inv z.1 z.2 /\ Good n h0 W0 (headSt ann st z.1) z.2 a' W') (fun z => μ z.1 z.2) (xs ++ ys, h) ⟨hk, hI, g.head hok (Agree.refl _ _) wf0 hn hx hy⟩ ?_
      intro z a1 W1 ⟨hk1, hI1, g1⟩
      obtain ⟨hl, hz⟩ := kindsOk_zip hk1
      have hb := allL.at h2 hl hz z.2 hI1
      refine ih (cfg.within ann) _ z.2 a1 W1 _ _ hn hf g1 hb fun e st' h' a' W' hK g' ag => ?_
      have ag0 : Agree (some ann.lim) st st' := (Agree.head hok _).trans ag
      cases e with
      | normal =>
        obtain ⟨xs', ys', hx', hy', hk', hI', hμ⟩ := hK.out
        exact ⟨(xs' ++ ys', h'), ⟨hk', hI', g'.head hok ag0 wf0 hn hx' hy'⟩, hμ⟩
      | exit id => exact hQ (.exit id) st' h' a' W' hK g' (ag0.within hok)
      | ret => exact hQ .ret st' h' a' W' hK g' (ag0.within hok)
  | exit id => exact fun cfg st h a W Q Q' hn hf g hv hQ => wp_exit (hQ (.exit id) st h a W hv g (Agree.refl _ _))
  | ret => exact fun cfg st h a W Q Q' hn hf g hv hQ => wp_ret (hQ .ret st h a W hv g (Agree.refl _ _))
  | _ => intro cfg st h a W Q Q' hn hf g hv hQ; exact hv.elim
def initSt (args : List Value) : VS := { env := fun i => .val (args.getD i undef), own := fun _ => none }
def resVal (P : Program) (st : VS) : ResultVar -> Option Value
  | .tmp t => match st.env t with
    | .val v => some v
    | _ => none
  | .cell a t => match st.env a with
    | .own k off => match st.own k with
      | some cs => match isAggT P t with
        | some true => bif Nat.ble (off + P.cellsOf t) cs.length then some (.agg ((cs.drop off).take (P.cellsOf t)).toArray) else none
        | some false => cs[off]?
        | none => none
      | none => none
    | _ => none
def resVals (P : Program) (st : VS) : List ResultVar -> Option (List Value)
  | [] => some []
  | r :: rs => match resVal P st r with
    | some v => match resVals P st rs with
      | some vs => some (v :: vs)
      | none => none
    | none => none
def tupleOf : List Value -> Value
  | [v] => v
  | vs => .tuple vs.toArray
def retPost (P : Program) (rs : List ResultVar) (K : Value -> Heap -> Prop) (e : Ex) (st : VS) (h : Heap) : Prop :=
  match e with
  | .exit _ => False
  | _ => match resVals P st rs with
    | some vs => K (tupleOf vs) h
    | none => False
def vcFn (P : Program) (fa : FnAnn) (cfg : Cfg) (rs : List ResultVar) (c : Code) (args : List Value) (h : Heap) (K : Value -> Heap -> Prop) : Prop :=
  vcCode P fa c cfg (initSt args) h (retPost P rs K)
theorem resVal_run {θ : Nat -> Nat} (r : Rel n θ st h a W) {rv : ResultVar} {v : Value} (e : resVal P st rv = some v) :
    (match rv with
      | .tmp t => (pure (a.tmps.getD t undef) : Sem Value)
      | .cell x t => do loadVar t (<- asAddr (a.tmps.getD x undef))).run P W = .ok v W := by
  cases rv with
  | tmp t =>
    simp only [resVal] at e
    have := r.slot' t
    split at e
    . rename_i u hu
      injection e with e; subst e
      rw [hu] at this
      have this : a.tmps.getD t undef = u := this
      simp [this]
    . cases e
  | cell x t =>
    simp only [resVal] at e
    have hx := r.slot' x
    split at e
    . rename_i k off hk
      rw [hk] at hx
      have hx : a.tmps.getD x undef = .pointer (some ⟨θ k, off, none⟩) := hx
      split at e
      . rename_i cs hcs
        have hl : ownLoad P t cs off fun w => w = .val v := by
          split at e
          . rename_i hag
            cases hb : Nat.ble (off + P.cellsOf t) cs.length with
            | false => rw [hb] at e; cases e
            | true =>
              rw [hb] at e; injection e with e
              unfold ownLoad; rw [hag]
              simp only [info_of_agg hag, hb, Bool.and_self]
              show _ = _
              rw [e]
          . rename_i hag
            unfold ownLoad; rw [hag]; simp only [e]
          . cases e
        obtain ⟨u, hu, hr⟩ := ownLoad_sound r hcs hl
        injection hu with hu; subst hu
        simp only [Instr.loadAt, Instr.sureAddr, Sem.run_bind, Sem.run_pure, Result.andThen_ok] at hr
        simp only [hx, asAddr, Sem.run_bind, Sem.run_pure, Result.andThen_ok, hr]
      . cases e
    . cases e
theorem resVals_run {θ : Nat -> Nat} (r : Rel n θ st h a W) (rs : List ResultVar) : ∀ {vs : List Value}, resVals P st rs = some vs ->
    (rs.mapM fun (rv : ResultVar) => match rv with
      | .tmp t => (pure (a.tmps.getD t undef) : Sem Value)
      | .cell x t => do loadVar t (<- asAddr (a.tmps.getD x undef))).run P W = .ok vs W := by
  induction rs with
  | nil => intro vs e; injection e with e; subst e; simp
  | cons rv rs ih =>
    intro vs e
    unfold resVals at e
    split at e
    . rename_i v hv
      split at e
      . rename_i ws hws
        injection e with e; subst e
        rw [List.mapM_cons]
        simp only [Sem.run_bind, resVal_run r hv, Result.andThen_ok, ih hws, Sem.run_pure]
      . cases e
    . cases e
def codeOf (fn : Func) : Code :=
  match fn.body with
  | some c => c
  | none => .skip
theorem Bodies.nil : Bodies P [] := fun g hg => by cases hg
theorem Bodies.cons {g : Nat} {l : List Nat} (hg : ∀ args W, (callFunc g args).run P W = .ok (.enter g args) W) (hl : Bodies P l) : Bodies P (g :: l) := fun k hk => by
  cases hk with
  | head => exact hg
  | tail _ hk => exact hl k hk
theorem fn_sound {f : FuncId} {fn : Func} (hf : P.funcs[f]? = some fn) {c : Code} (hb : fn.body = some c) {rs : List ResultVar} (hr : fn.results.toList = rs) {fa : FnAnn} {cfg : Cfg} {args : List Value} (hn : cfg.n = args.length + (fn.ntmps - args.length)) (hfn : Bodies P cfg.fns) {h : Heap} {K : Value -> Heap -> Prop}
    (hv : vcFn P fa cfg rs c args h K) : FCall P f args.toArray h K := by
  intro W hs
  subst hr
  have g : Good cfg.n h W (initSt args) h { tmps := args.toArray ++ Array.replicate (fn.ntmps - args.toArray.size) undef, defers := [] } W := by
    refine ⟨fun _ => 0, ⟨rfl, by simp [hn], fun i hi => ?_, hs, (fun k cs e => by cases e), (fun k k' hk => by cases hk), (fun i k off e => by cases e), fun i hi => ?_⟩, Fr.refl hs, (fun k hk => by cases hk)⟩
    . show _ = args.getD i undef
      rcases Nat.lt_or_ge i args.length with x | x
      . simp [Array.getD, x, List.getD]; omega
      . have : i < args.length + (fn.ntmps - args.length) := by rw [<- hn]; exact hi
        simp [Array.getD, this, List.getD, Array.getElem_append, Nat.not_lt.2 x]
    . show AVal.val (args.getD i undef) = _
      have : args.length <= i := by rw [hn] at hi; omega
      simp [List.getD, List.getElem?_eq_none this]
  refine calls_of_wp hf hb (code_sound c cfg _ h _ W _ _ rfl hfn g hv fun e st' h' a' W' hK g' _ => ?_)
  obtain ⟨θ, r, fr, _⟩ := g'
  have fin : ∀ vs, resVals P st' fn.results.toList = some vs -> K (tupleOf vs) h' -> bodyPost P fn (fun e W' => ∃ r h', e = .returned r /\ K r h' /\ Fr h W h' W') .ret a' W' := by
    intro vs hvs hK
    refine ⟨r.defers, tupleOf vs, ?_, _, h', rfl, hK, fr⟩
    have hm := resVals_run (P := P) r fn.results.toList hvs
    have e : (results fn a'.tmps).run P W' = ((fn.results.toList.mapM (fun (rv : ResultVar) => match rv with
      | .tmp t => (pure (a'.tmps.getD t undef) : Sem Value)
      | .cell x t => do loadVar t (<- asAddr (a'.tmps.getD x undef)))).run P W').andThen fun l w => .ok (if h : l.toArray.size = 1 then l.toArray[0] else .tuple l.toArray) w := by
      unfold results
      rw [Sem.run_bind, Array.mapM_eq_mapM_toList]
      simp only [map_eq_pure_bind, Sem.run_bind]
      generalize Sem.run P _ W' = x
      cases x <;> simp
    rw [e, hm, Result.andThen_ok]
    cases vs with
    | nil => rfl
    | cons v vs => cases vs <;> rfl
  cases e with
  | exit id => exact hK.elim
  | normal =>
    unfold retPost at hK
    split at hK
    . exact hK.elim
    . split at hK
      . rename_i vs hvs; exact fin vs hvs hK
      . exact hK.elim
  | ret =>
    unfold retPost at hK
    split at hK
    . exact hK.elim
    . split at hK
      . rename_i vs hvs; exact fin vs hvs hK
      . exact hK.elim
end
abbrev I (n : Int) : Value := .int .i64 n
abbrev I32 (n : Int) : Value := .int .i32 n
abbrev U (n : Int) : Value := .int .u64 n
abbrev U32 (n : Int) : Value := .int .u32 n
abbrev Y (n : Int) : Value := .int .u8 n
abbrev wi64 (n : Int) : Int := IntKind.i64.wrap n
abbrev wi32 (n : Int) : Int := IntKind.i32.wrap n
abbrev wu64 (n : Int) : Int := IntKind.u64.wrap n
abbrev wu32 (n : Int) : Int := IntKind.u32.wrap n
abbrev wu8 (n : Int) : Int := IntKind.u8.wrap n
def band (k : IntKind) (x y : Int) : Int := k.wrap (BitVec.ofInt k.bits x &&& BitVec.ofInt k.bits y).toNat
def bor (k : IntKind) (x y : Int) : Int := k.wrap (BitVec.ofInt k.bits x ||| BitVec.ofInt k.bits y).toNat
def bxor (k : IntKind) (x y : Int) : Int := k.wrap (BitVec.ofInt k.bits x ^^^ BitVec.ofInt k.bits y).toNat
def bandNot (k : IntKind) (x y : Int) : Int := k.wrap (BitVec.ofInt k.bits x &&& ~~~BitVec.ofInt k.bits y).toNat
end Go.Proofs.YtekkjhmfjplljaaGreatDoor
