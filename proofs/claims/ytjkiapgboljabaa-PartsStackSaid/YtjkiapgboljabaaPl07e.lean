/- What the machine does right behind a dollar; which frames a byte takes away. No program is in sight. -/
import Derived.Test.YtjkiapgboljabaaPl07d
namespace Go.Proofs.Ytjkiapgboljabaa
set_option linter.unusedVariables false
set_option linter.unusedSimpArgs false
set_option maxRecDepth 100000
/-- No dollar is in a stack. -/
def N76 (st : Stk) : Prop := ∀ y ∈ st, y.1.toNat ≠ 76
theorem N76.tail {st : Stk} (h : N76 st) : N76 st.tail := fun y hy => h y (List.mem_of_mem_tail hy)
theorem N76.cons {st : Stk} {c : UInt8} {p : Int} (h : N76 st) (hc : c.toNat ≠ 76) : N76 ((c, p) :: st) := by
  intro y hy
  rcases List.mem_cons.1 hy with rfl | hy
  · exact hc
  · exact h y hy
theorem N76.of_cons {st : Stk} {y : UInt8 × Int} (h : N76 (y :: st)) : N76 st := fun z hz => h z (List.mem_cons_of_mem _ hz)
/-- The one dollar that may be there is the last frame, of the last byte. -/
def DR (a : Int) (x : Stk × Bool) : Prop := N76 x.1 ∨ ∃ d q r, x.1 = ((76 : UInt8), a) :: (d, q) :: r ∧ N76 ((d, q) :: r) ∧ (d.toNat ≠ 88 ∧ d.toNat ≠ 79 ∧ d.toNat ≠ 69) ∧ (d.toNat = 84 ∨ d.toNat = 67 ∨ d.toNat = 80 → x.2 = false)
theorem rProgram_d (c : UInt8) (q : Int) (r : Stk) (f : Bool) (b : UInt8) (a : Int) (h : N76 ((c, q) :: r)) (hc : c.toNat ≠ 88 ∧ c.toNat ≠ 79 ∧ c.toNat ≠ 69) : DR a (rProgram ((c, q) :: r) f c b a) := by
  unfold rProgram
  repeat' (refine ite_ok (DR a) (fun _ => ?_) (fun _ => ?_))
  all_goals first
    | exact .inl h
    | exact .inl h.tail
    | exact .inr ⟨c, q, r, rfl, h, hc, fun _ => rfl⟩
    | exact .inl (h.cons (by decide))
theorem rPlain_d (c : UInt8) (q : Int) (r : Stk) (f : Bool) (b : UInt8) (a : Int) (h : N76 ((c, q) :: r)) (h1 : c.toNat ≠ 79) (h2 : c.toNat ≠ 69) : DR a (rPlain ((c, q) :: r) f c b a) := by
  unfold rPlain
  refine ite_ok (DR a) (fun h3 => rProgram_d c q r f b a h ⟨by omega, h1, h2⟩) (fun h3 => ?_)
  refine ite_ok (DR a) (fun _ => .inl h.tail) (fun h4 => ?_)
  have hd : c.toNat ≠ 88 ∧ c.toNat ≠ 79 ∧ c.toNat ≠ 69 := ⟨h4, h1, h2⟩
  repeat' (refine ite_ok (DR a) (fun _ => ?_) (fun _ => ?_))
  all_goals first
    | exact .inl h
    | exact .inl h.tail
    | exact .inr ⟨c, q, r, rfl, h, hd, fun hh => absurd hh h3⟩
    | exact .inl (h.cons (by decide))
    | exact .inl (h.of_cons.cons (by decide))
theorem rStep_d (st : Stk) (f : Bool) (b : UInt8) (a0 a : Int) (h : DR a0 (st, f)) : DR a (rStep st f b a) := by
  rcases h with h | ⟨d, q, r, he, h, hd, hf⟩
  · match st, h with
    | [], h => exact .inl h
    | (c, p) :: r, h =>
      have hc : c.toNat ≠ 76 := h (c, p) (List.mem_cons_self ..)
      unfold rStep
      simp only
      rw [if_neg hc]
      refine ite_ok (DR a) (fun _ => ?_) (fun h1 => ?_)
      · exact ite_ok (DR a) (fun _ => .inl (N76.cons h.of_cons (by decide))) (fun _ => rPlain_d 67 p r f b a (N76.cons h.of_cons (by decide)) (by decide) (by decide))
      · refine ite_ok (DR a) (fun _ => ?_) (fun h2 => rPlain_d c p r f b a h h1 h2)
        exact ite_ok (DR a) (fun _ => .inl h.of_cons) (fun _ => rPlain_d 65 p r f b a (N76.cons h.of_cons (by decide)) (by decide) (by decide))
  · simp only at he
    subst he
    unfold rStep
    simp only
    rw [if_pos (by decide)]
    refine ite_ok (DR a) (fun _ => .inl (h.cons (by decide))) (fun _ => ?_)
    refine ite_ok (DR a) (fun _ => ?_) (fun _ => ?_)
    · exact ite_ok (DR a) (fun _ => .inl (h.cons (by decide))) (fun _ => .inl (h.cons (by decide)))
    · exact ite_ok (DR a) (fun _ => .inl h) (fun _ => rPlain_d d q r f b a h hd.2.1 hd.2.2)
theorem rAt_d (l : List UInt8) : ∀ k : Nat, DR ((k : Int) - 1) (rAt l k)
  | 0 => .inl (by intro y hy; simp [rAt] at hy; rw [hy]; decide)
  | k + 1 => by
    have := rStep_d (rAt l k).1 (rAt l k).2 (l.getD k 0) _ k (rAt_d l k)
    rw [show ((k + 1 : Nat) : Int) - 1 = k by omega]
    exact this
/-! What a byte does to the places. -/
def P3 (ps : List Int) (a : Int) (x : Stk × Bool) : Prop := pls x.1 = ps ∨ pls x.1 = a :: ps ∨ pls x.1 = ps.tail
theorem rProgram_p3 (st : Stk) (f : Bool) (c b : UInt8) (a : Int) : P3 (pls st) a (rProgram st f c b a) := by
  unfold rProgram
  repeat' (refine ite_ok (P3 (pls st) a) (fun _ => ?_) (fun _ => ?_))
  all_goals first
    | exact .inl rfl
    | exact .inr (.inl rfl)
    | exact .inr (.inr (by simp [pls, List.map_tail]))
theorem rPlain_p3 (st : Stk) (f : Bool) (c b : UInt8) (a : Int) : P3 (pls st) a (rPlain st f c b a) := by
  unfold rPlain
  repeat' (refine ite_ok (P3 (pls st) a) (fun _ => ?_) (fun _ => ?_))
  all_goals first
    | exact rProgram_p3 _ _ _ _ _
    | exact .inl rfl
    | exact .inr (.inl rfl)
    | (refine .inl ?_; cases st <;> rfl)
    | (refine .inr (.inr ?_); cases st <;> rfl)
theorem rStep_p3 (st : Stk) (f : Bool) (b : UInt8) (a : Int) : P3 (pls st) a (rStep st f b a) ∨ ∃ c p r, st = (c, p) :: r ∧ c.toNat = 76 ∧ P3 (pls r) a (rStep st f b a) := by
  match st with
  | [] => exact .inl (.inl rfl)
  | (c, p) :: r =>
    by_cases h : c.toNat = 76
    · by_cases h1 : b.toNat = 40
      · left; unfold rStep; simp only; rw [if_pos h, if_pos h1]; exact .inl rfl
      · by_cases h2 : b.toNat = 123
        · left; unfold rStep; simp only; rw [if_pos h, if_neg h1, if_pos h2]
          cases r with
          | nil => exact .inl rfl
          | cons y r => exact ite_ok (P3 (pls ((c, p) :: y :: r)) a) (fun _ => .inl rfl) (fun _ => .inl rfl)
        · refine .inr ⟨c, p, r, rfl, h, ?_⟩
          unfold rStep; simp only; rw [if_pos h, if_neg h1, if_neg h2]
          refine ite_ok (P3 (pls r) a) (fun _ => .inl rfl) (fun _ => ?_)
          cases r with
          | nil => exact .inl rfl
          | cons y r => exact rPlain_p3 _ _ _ _ _
    · left
      unfold rStep
      simp only
      rw [if_neg h]
      refine ite_ok (P3 (pls ((c, p) :: r)) a) (fun _ => ?_) (fun _ => ?_)
      · exact ite_ok (P3 (pls ((c, p) :: r)) a) (fun _ => .inl rfl) (fun _ => rPlain_p3 ((67, p) :: r) _ _ _ _)
      · refine ite_ok (P3 (pls ((c, p) :: r)) a) (fun _ => ?_) (fun _ => rPlain_p3 _ _ _ _ _)
        exact ite_ok (P3 (pls ((c, p) :: r)) a) (fun _ => .inr (.inr rfl)) (fun _ => rPlain_p3 ((65, p) :: r) _ _ _ _)
theorem P3.push {ps X : List Int} {a : Int} {x : Stk × Bool} (h : P3 ps a x) (e : pls x.1 = a :: X) (ha : a ∉ ps) : X = ps := by
  rcases h with h | h | h
  · rw [h] at e; exact absurd (e ▸ List.mem_cons_self ..) ha
  · rw [h] at e; exact (List.cons.inj e).2.symm
  · rw [h] at e
    exact absurd (List.mem_of_mem_tail (e ▸ List.mem_cons_self ..)) ha
/-! A parameter's bytes turn nothing. -/
theorem name_byte (b : UInt8) (h : nameB b = true) : b.toNat ≠ 92 ∧ b.toNat ≠ 39 ∧ b.toNat ≠ 34 ∧ b.toNat ≠ 96 ∧ b.toNat ≠ 36 ∧ b.toNat ≠ 35 ∧ b.toNat ≠ 40 ∧ b.toNat ≠ 41 ∧ b.toNat ≠ 10 ∧ b.toNat ≠ 125 ∧ b.toNat ≠ 123 := by
  have := byte_all (fun b => !nameB b || decide (b.toNat ≠ 92 ∧ b.toNat ≠ 39 ∧ b.toNat ≠ 34 ∧ b.toNat ≠ 96 ∧ b.toNat ≠ 36 ∧ b.toNat ≠ 35 ∧ b.toNat ≠ 40 ∧ b.toNat ≠ 41 ∧ b.toNat ≠ 10 ∧ b.toNat ≠ 125 ∧ b.toNat ≠ 123)) (by decide +kernel) b
  rw [h] at this
  simpa using this
theorem spc_byte (b : UInt8) (h : spcB b = true) (h36 : b.toNat ≠ 36) : b.toNat ≠ 92 ∧ b.toNat ≠ 39 ∧ b.toNat ≠ 34 ∧ b.toNat ≠ 96 ∧ b.toNat ≠ 36 ∧ b.toNat ≠ 40 ∧ b.toNat ≠ 41 ∧ b.toNat ≠ 10 ∧ b.toNat ≠ 125 ∧ b.toNat ≠ 123 := by
  have := byte_all (fun b => !spcB b || decide (b.toNat = 36) || decide (b.toNat ≠ 92 ∧ b.toNat ≠ 39 ∧ b.toNat ≠ 34 ∧ b.toNat ≠ 96 ∧ b.toNat ≠ 36 ∧ b.toNat ≠ 40 ∧ b.toNat ≠ 41 ∧ b.toNat ≠ 10 ∧ b.toNat ≠ 125 ∧ b.toNat ≠ 123)) (by decide +kernel) b
  rw [h] at this
  simp only [Bool.not_true, Bool.false_or, Bool.or_eq_true, decide_eq_true_eq] at this
  rcases this with h | h
  · exact absurd h h36
  · exact h
theorem rPlain_still (st : Stk) (f : Bool) (d b : UInt8) (a : Int) (hd : d.toNat ≠ 88) (hb : b.toNat ≠ 92 ∧ b.toNat ≠ 39 ∧ b.toNat ≠ 34 ∧ b.toNat ≠ 96 ∧ b.toNat ≠ 36 ∧ b.toNat ≠ 40 ∧ b.toNat ≠ 41 ∧ b.toNat ≠ 10 ∧ b.toNat ≠ 125 ∧ b.toNat ≠ 123)
    (hs : b.toNat ≠ 35 ∨ (d.toNat = 84 ∨ d.toNat = 67 ∨ d.toNat = 80 → f = false)) : (rPlain st f d b a).1 = st := by
  obtain ⟨b1, b2, b3, b4, b5, b6, b7, b8, b9, b10⟩ := hb
  unfold rPlain
  by_cases h3 : d.toNat = 84 ∨ d.toNat = 67 ∨ d.toNat = 80
  · rw [if_pos h3]
    unfold rProgram
    rw [if_neg b1, if_neg b2, if_neg b3, if_neg b4, if_neg b5, if_neg, if_neg b6, if_neg b7]
    rintro ⟨h5, h6⟩
    rcases hs with hs | hs
    · exact hs h5
    · rw [hs h3] at h6; cases h6
  · rw [if_neg h3, if_neg hd]
    repeat' split
    all_goals first
      | rfl
      | (exfalso; omega)
theorem rStep_dol (f : Bool) (p q : Int) (d b : UInt8) (r : Stk) (a : Int) (hd : d.toNat ≠ 88) (hf : d.toNat = 84 ∨ d.toNat = 67 ∨ d.toNat = 80 → f = false) (hb : nameB b = true ∨ spcB b = true) : (rStep ((76, p) :: (d, q) :: r) f b a).1 = (d, q) :: r := by
  have hne : b.toNat ≠ 40 ∧ b.toNat ≠ 123 := by
    rcases hb with h | h
    · have := name_byte b h; omega
    · by_cases e : b.toNat = 36
      · omega
      · have := spc_byte b h e; omega
  unfold rStep
  simp only
  rw [if_pos (by decide), if_neg hne.1, if_neg hne.2]
  by_cases e : b.toNat = 36
  · rw [if_pos e]
  · rw [if_neg e]
    rcases hb with h | h
    · have := name_byte b h; exact rPlain_still _ _ _ _ _ hd (by omega) (.inl (by omega))
    · exact rPlain_still _ _ _ _ _ hd (spc_byte b h e) (.inr hf)
theorem rStep_name (f : Bool) (q : Int) (d b : UInt8) (r : Stk) (a : Int) (hd : d.toNat ≠ 88 ∧ d.toNat ≠ 79 ∧ d.toNat ≠ 69) (h76 : d.toNat ≠ 76) (hb : nameB b = true) : (rStep ((d, q) :: r) f b a).1 = (d, q) :: r := by
  unfold rStep
  simp only
  rw [if_neg h76, if_neg hd.2.1, if_neg hd.2.2]
  have := name_byte b hb
  exact rPlain_still _ _ _ _ _ hd.1 (by omega) (.inl (by omega))
theorem tw_byte (p : UInt8 → Bool) : ∀ (m : List UInt8) (j : Nat), j < (m.takeWhile p).length → p (m.getD j 0) = true
  | [], j, h => by simp at h
  | c :: m, 0, h => by
    by_cases hc : p c = true
    · exact hc
    · rw [List.takeWhile_cons_of_neg hc] at h; simp at h
  | c :: m, j + 1, h => by
    by_cases hc : p c = true
    · rw [List.takeWhile_cons_of_pos hc] at h
      exact tw_byte p m j (by simpa using h)
    · rw [List.takeWhile_cons_of_neg hc] at h; simp at h
theorem parL_bytes (l : List UInt8) (k j : Nat) (hj : j < parL l k) : (j = 0 ∧ (nameB (l.getD k 0) = true ∨ spcB (l.getD k 0) = true)) ∨ nameB (l.getD (k + j) 0) = true := by
  have hg : ∀ i, l.getD (k + i) 0 = (l.drop k).getD i 0 := by intro i; simp [List.getD_eq_getElem?_getD]
  have hg0 := hg 0
  rw [Nat.add_zero] at hg0
  rw [hg j, hg0]
  unfold parL at hj
  generalize l.drop k = m at *
  unfold paramLen at hj
  split at hj
  · right
    match m, hj with
    | [], hj => simp [nameLen] at hj
    | c :: m, hj =>
      unfold nameLen at hj
      simp only at hj
      by_cases hc : letB c = true
      · rw [if_pos hc] at hj
        exact tw_byte nameB _ _ hj
      · rw [if_neg hc] at hj; omega
  · match m, hj with
    | [], hj => simp at hj
    | c :: m, hj =>
      simp only at hj
      by_cases h : spcB c = true ∨ digB c = true
      · rw [if_pos h] at hj
        left
        refine ⟨by omega, ?_⟩
        rcases h with h | h
        · exact .inr h
        · left; simp [nameB, h]
      · rw [if_neg h] at hj; omega
/-- Behind a dollar, as far as its parameter goes, the other frames stay. -/
theorem dol_still (l : List UInt8) (k : Nat) (p q : Int) (d : UInt8) (r : Stk) (h : (rAt l k).1 = (76, p) :: (d, q) :: r) : ∀ j, 1 ≤ j → j ≤ parL l k → (rAt l (k + j)).1 = (d, q) :: r := by
  have hd : (d.toNat ≠ 88 ∧ d.toNat ≠ 79 ∧ d.toNat ≠ 69) ∧ d.toNat ≠ 76 ∧ (d.toNat = 84 ∨ d.toNat = 67 ∨ d.toNat = 80 → (rAt l k).2 = false) := by
    rcases rAt_d l k with h1 | ⟨d', q', r', he, h1, h2, h3⟩
    · rw [h] at h1; exact absurd rfl (h1 (76, p) (List.mem_cons_self ..))
    · rw [h] at he
      simp only [List.cons.injEq, Prod.mk.injEq] at he
      obtain ⟨_, ⟨rfl, rfl⟩, rfl⟩ := he
      exact ⟨h2, h1 (d, q) (List.mem_cons_self ..), h3⟩
  obtain ⟨h1, h2, h3⟩ := hd
  intro j
  induction j with
  | zero => intro h0; omega
  | succ j ih =>
    intro _ hj
    show (rStep (rAt l (k + j)).1 (rAt l (k + j)).2 (l.getD (k + j) 0) ((k + j : Nat) : Int)).1 = _
    by_cases e : j = 0
    · subst e
      rw [Nat.add_zero, h]
      rcases parL_bytes l k 0 (by omega) with ⟨_, hb⟩ | hb
      · exact rStep_dol _ _ _ _ _ _ _ h1.1 h3 hb
      · exact rStep_dol _ _ _ _ _ _ _ h1.1 h3 (.inl (by rwa [Nat.add_zero] at hb))
    · rw [ih (by omega) (by omega)]
      rcases parL_bytes l k j (by omega) with ⟨e', _⟩ | hb
      · exact absurd e' e
      · exact rStep_name _ _ _ _ _ _ h1 h2 hb
end Go.Proofs.Ytjkiapgboljabaa
